import Derived.Test.YteehgedabdchcaaGreatKat
import Derived.Test.YteehgedabdchcaaGreatKau
import Derived.Test.YteehgedabdchcaaGreatKbs
import Derived.Test.YteehgedabdchcaaGreatKca
set_option linter.all false
set_option maxRecDepth 1000000
set_option maxHeartbeats 0
open Go renaming World->Aa,Calls->Ab,Value->Ac
open Go.RowKit renaming Below->Ae
open Go.Value renaming int->I,slice->Ah,agg->Ak
open Go.IntKind renaming i64->Z
open Go.Ending renaming returned->O
namespace Go.Proofs.YteehgedabdchcaaGreat
open Go.RowKit Hp
attribute [local go_sem ↓] Go.wp_at_zero Go.wp_at_succ
def D3.below {w w':Aa}{x:AK}{va vt:Ac}(h:D3 w x va vt)(k:Ae w.1.size w w'):D3 w' x va vt:=by
 obtain⟨⟨o,t,h1⟩,o2,t2,h2⟩:=h;exact⟨⟨o,t,h1.Ao (T:=fun _=>False) (Stp.of_below k) id⟩,o2,t2,h2.Ao (T:=fun _=>False) (Stp.of_below k) id⟩
def D3.act {w:Aa}{x:AK}{va vt:Ac}(h:D3 w x va vt){j:Nat}{a:A0}(hj:x.AX[j]?=some a) :
  ∃ g c,va=Ah (some ⟨g,0,none⟩) x.AX.length c/\x.AX.length<=c/\w.cell? ⟨g,j*3,none⟩=some (I Z a.k)/\w.cell? ⟨g,j*3+1,none⟩=some (I Z a.e)/\w.cell? ⟨g,j*3+2,none⟩=some (I Z a.v):=by
 obtain⟨o,t,hr⟩:=h.a;rcases hr.B7 with ⟨_,h0⟩|⟨g,c,rfl,hc⟩
 ·have:=FV hj 0 (by omega)
  rw[h0]at this;simp[A0.cells]at this
 ·have f:∀ k,k<3->∀ u,a.cells.toList[k]?=some u->w.cell? ⟨g,j*3+k,none⟩=some u:=fun k hk u hu=>by
   have:=hr.own.cells (g:=g) rfl (j*3+k) u ((FV hj k hk).trans hu);rwa [addr_add]at this
  exact⟨g,c,rfl,hc,f 0 (by omega) _ rfl,f 1 (by omega) _ rfl,f 2 (by omega) _ rfl⟩
def D3.at {w:Aa}{x:AK}{va vt:Ac}(h:D3 w x va vt){j:Nat}{n:Nat}(hj:x.Cu[j]?=some n) :
  ∃ g c,vt=Ah (some ⟨g,0,none⟩) x.Cu.length c/\x.Cu.length<=c/\w.cell? ⟨g,j,none⟩=some (I Z n):=by
 obtain⟨o,t,hr⟩:=h.i;have hx:(x.Cu.map nv)[j]?=some (nv n):=by rw[Qj,hj];rfl
 rcases hr.B7 with ⟨_,h0⟩|⟨g,c,rfl,hc⟩
 ·rw[h0]at hx;cases hx
 ·have:=hr.own.cells (g:=g) rfl j _ hx
  rw[addr_add]at this;exact⟨g,c,rfl,hc,this⟩
abbrev Wa (x:AK)(va vt:Ac):Ac:=Ak #[I Z x.t,I Z x.b,I Z x.st,I Z x.se,I Z x.fr,I Z x.te,va,vt,I Z x.en,I Z x.ve]
def qpo {w:Aa}(x:AK){va vt ua ut:Ac}(h:D3 w x va vt)(k:D3 w x ua ut)(hl:x.AX.length=x.Cu.length)(hn:x.AX.length<=1000000) :
  Ab Tryz.prog 45 #[Wa x va vt,Wa x ua ut] w fun e w'=>e=O (.bool true)/\Ae w.1.size w w':=by
 have HA:=Qa h;have HB:=Qa k;obtain⟨n,hn'⟩:=Ja0 x.AX.length;have hn2:n=x.Cu.length:=hn'.trans hl;obtain⟨pa,ca,rfl⟩:=h.a.choose_spec.choose_spec.AS;obtain⟨pt,ct,rfl⟩:=h.i.choose_spec.choose_spec.AS;obtain⟨qa,da,rfl⟩:=k.a.choose_spec.choose_spec.AS;obtain⟨qt,dt,rfl⟩:=k.i.choose_spec.choose_spec.AS;have gZ:=Qa (And.intro hn' hn2);rw[<-hn2,<-hn'];rw[<-hn']at hn;have HL:=Qa hn;obtain⟨xt,hxt⟩:=Ja0 x.t;obtain⟨xb,hxb⟩:=Ja0 x.b;obtain⟨kR,Agw⟩:=Ja0 x.st;obtain⟨kQ,Agv⟩:=Ja0 x.se;obtain⟨nU,Agu⟩:=Ja0 x.fr;obtain⟨gM,Agx⟩:=Ja0 x.te;obtain⟨kM,Agt⟩:=Ja0 x.en;obtain⟨mD,Agy⟩:=Ja0 x.ve;unfold Wa;rw[<-hxt,<-hxb,<-Agw,<-Agv,<-Agu,<-Agx,<-Agt,<-Agy];clear hxt hxb Agw Agv Agu Agx Agt Agy hl hn' hn2 h k;have hne:∀ a:Int,(a != a)=false:=fun a=>by simp
 have n1:=hne xt;have n2:=hne xb;have n3:=hne kR;have n4:=hne kQ;have n5:=hne nU;have n6:=hne gM;have n7:=hne kM;have n8:=hne mD;have n9:=hne (n:Int);go_enter Tryz.func45,Tryz.ntmps45;go_upto_region 4 with fail;obtain⟨W,hW⟩:=Ja0 ((w.alloc (.cells #[I Z xt,I Z xb,I Z kR,I Z kQ,I Z nU,I Z gM,.slice pa n ca,.slice pt n ct,I Z kM,I Z mD] 86)).alloc (.cells #[I Z xt,I Z xb,I Z kR,I Z kQ,I Z nU,I Z gM,.slice qa n da,.slice qt n dt,I Z kM,I Z mD] 86));rw[<-hW];have mF:=Qa (show Ae w.1.size w W from by rw[hW];exact qc (qc (qd w) _) _)
 have HJa:=Qa (show Al W w.1.size #[I Z xt,I Z xb,I Z kR,I Z kQ,I Z nU,I Z gM,.slice pa n ca,.slice pt n ct,I Z kM,I Z mD] 86 from by rw[hW];exact (Al.new w _ _).alloc _)
 have HJb:=Qa (show Al W (w.1.size+1) #[I Z xt,I Z xb,I Z kR,I Z kQ,I Z nU,I Z gM,.slice qa n da,.slice qt n dt,I Z kM,I Z mD] 86 from by rw[hW];exact Al.Ap _ _ _ _ _ (by simp) rfl)
 obtain⟨ga,hga⟩:=Ja0 w.1.size;rw[<-hga]at HJa HJb ⊢;have HG:=Qa hga;clear hW hga n1 n2 n3 n4 n5 n6 n7 n8 n9;go_loopw [5](fun ix wr=>∃ j:Nat,ix=I Z j/\j<=n/\Ae W.1.size W wr)(fun ix _=>n-(intOf ix).toNat)
 case atStart=>exact⟨0,rfl,Nat.zero_le _,qd W⟩
 case round =>
  obtain⟨j,rfl,hjn,hbw⟩:=hrel;have jA:=HJa.out.below hbw HJa.out.lt;have jB:=HJb.out.below hbw HJb.out.lt;have hb0:Ae w.1.size w wr:=qe mF.out hbw;have yD:=Qa hbw;have HB0:=Qa (show Ae ga w wr from by rw[HG.out];exact hb0)
  have cA:=jA.cell;have lA:=jA.lt;have cB:=jB.cell;have lB:=jB.lt;by_cases hlt:j<n
  ·have jI:(j:Int)<(n:Int):=by omega
   have HW:=Qa (jd j (by have:=HL.out;omega))
   obtain⟨a,ha⟩:∃ a,x.AX[j]?=some a:=⟨_,Qb (by rw[<-gZ.out.1];exact hlt)⟩
   obtain⟨i,hi⟩:∃ i,x.Cu[j]?=some i:=⟨_,Qb (by rw[<-gZ.out.2];exact hlt)⟩
   obtain⟨g1,c1,e1,hc1,d0,d1,d2⟩:=(HA.out.below hb0).act ha;obtain⟨g2,c2,e2,hc2,f0⟩:=(HA.out.below hb0).at hi;obtain⟨g3,c3,e3,hc3,d3,d4,d5⟩:=(HB.out.below hb0).act ha;obtain⟨g4,c4,e4,hc4,f1⟩:=(HB.out.below hb0).at hi;rw[<-gZ.out.1]at e1 e3 hc1 hc3;rw[<-gZ.out.2]at e2 e4 hc2 hc4;injection e1 with e1 _ x1;injection e2 with e2 _ x2;injection e3 with e3 _ x3;injection e4 with e4 _ x4;subst e1 e2 e3 e4 x1 x2 x3 x4;obtain⟨ak,ae,av⟩:=a;simp only at d0 d1 d2 d3 d4 d5;have n0:((i:Int) != (i:Int))=false:=hne _;have n1:=hne ak;have n2:=hne ae;have n3:=hne av;clear ha hi jA jB hbw hb0;go_upto_region 6 with fail;go_quiet (fail);have HBq:=Qa (qe yD.out (qx (qd wr) nq));obtain⟨hw1,hw2⟩:=HW.out;clear cA cB d0 d1 d2 d3 d4 d5 f0 f1 lA lB;go_wp2_with fail;go_roundw
   case rel=>exact⟨j+1,by simp,hlt,HBq.out⟩
   case measure=>clear hw1 hw2;simp[intOf];omega
  ·obtain rfl:j=n:=by omega
   go_wp2_with fail;go_ret;exact⟨rfl,by rw[<-HG.out];exact HB0.out⟩
section
variable {bK : List (List (List Pg.D))} {R : Rd} {es : List Bg}
def qpf (hc:ux es)(h:za bK (some (Rd.new bK.length)) 0 es=some R){k:Nat}(hk:k<=es.length) :
  ∃ R1,za bK (some (Rd.new bK.length)) 0 (es.take k)=some R1/\R1.inv bK (es.take k)/\Ext k R1.M R.M:=by
 have e:es=es.take k++es.drop k:=(Qw k es).symm;have hl:(es.take k).length=k:=by rw[Qp];omega
 have h2:=h;rw[e,wj]at h2
 cases hr:za bK (some (Rd.new bK.length)) 0 (es.take k) with
 | none=>rw[hr,zy]at h2;cases h2
 | some R1 =>
  rw[hr]at h2;have hI:=uj (fun z hz=>hc z (List.mem_of_mem_take hz)) hr;refine⟨R1,rfl,hI,?_⟩;have h3:za bK (some R1) (es.take k).length (es.drop k)=some R:=by rw[Nat.zero_add]at h2;exact h2
  exact qit hI (Ext.refl k R1.M) (by omega) (fun z hz=>hc z (List.mem_of_mem_drop hz)) h3
def NP (h:R.inv bK es){i:Nat}{x:AK}(hx:R.M[i]?=some x):x.AX.length=x.Cu.length:=by
 obtain⟨_,_,_,_,_,_,h1,_⟩:=h.te i x hx;exact h1
end
def Ci.take {w:Aa}{pa:Option Addr}{c:Nat}{es:List Bg}(h:Ci w (.slice pa es.length c) es){k:Nat}(hk:k<=es.length):Ci w (.slice pa k c) (es.take k):=by
 obtain⟨h0,a,c',e,h1,h2⟩:=h;injection e with e1 _ e3;subst e1 e3;have hl:(es.take k).length=k:=by rw[Qp];omega
 refine⟨by omega,pa,c,by rw[hl],by omega,?_⟩
 rcases h2 with h2|⟨g,off,h3,h4⟩
 ·exact .inl (by rw[h2];simp)
 ·refine .inr ⟨g,off,h3,fun j x hx=>h4 j x ?_⟩
  have hj:j<k:=by have:=(Qc.1 hx).1;rw[hl]at this;exact this
  rw[Za,if_pos hj]at hx;exact hx
def M1 {bK:List (List (List Pg.D))}{R R1:Rd}{es1:List Bg}{k:Nat}(hI1:R1.inv bK es1)(hl:es1.length=k)(hX:Ext k R1.M R.M){i:Nat}{x y:AK}(hx:R.M[i]?=some x)(hy:R1.M[i]?=some y) :
  x.t=y.t/\x.b=y.b/\x.st=y.st/\x.se=y.se/\x.fr=y.fr/\y.fr<(k:Int)/\((x=y/\0<=y.te/\y.te<(k:Int))\/(y.te<0/\y.en=0/\(x.te<0\/(0<=x.te/\(k:Int)<=x.te))/\y.AX.length<=x.AX.length)):=by
 obtain⟨x',h1,h2,h3,h4,h5,h6,h7,h8⟩:=hX.old i y hy;rw[hx]at h1;injection h1 with h1;subst h1;obtain⟨f,e,g1,g2,_,_,_,g3⟩:=hI1.te i y hy;have g4:=(Qc.1 g2).1;refine⟨h2,h3,h4,h5,h6,by omega,?_⟩
 rcases g3 with ⟨g5,g6⟩|⟨g,g5,g6,g7,_⟩
 ·obtain⟨h9,h10⟩:=h8 (by omega)
  exact .inr ⟨by omega,g6,by omega,h10⟩
 ·exact .inl ⟨h7 (by omega),by omega,by omega⟩
def qcj (HA:∀ w,Ab Tryz.prog 41 #[] w fun e w'=>e=O (.bool true)/\Ae w.1.size w w')(v:Ac)(raw:List (List (List Pg.D)))(vl:Ac)(st:List Int)(cut:Int)(w:Aa)(h:AH w v raw)(hI:TI raw)(hl:CN w vl st)(hz:∀ z ∈ st,D4 z)(hcut:D4 cut) :
  Ab Tryz.prog 11 #[v,vl,I Z cut] w fun e w'=>e=O (.bool true)/\Ae w.1.size w w':=by
 have HAw:=Qa HA;have iQ:=Qa (fun (w':Aa)(hb:Ae w.1.size w w')=>UD v raw vl st w' (h.below hb) hI (hl.below hb) hz)
 obtain⟨pl,cl,rfl,_,_,_⟩:=hl;have HCu:=Qa hcut;obtain⟨np,fH⟩:=Ja0 ((jr raw).length);rw[<-fH]at iQ;have uJ:=Qa fH;clear h hI hz HA hcut fH;go_enter Tryz.func11,Tryz.ntmps11;go_upto_region 3 with (first
  | (go_at_call 41;refine (HAw.out _).mono ?_;rintro e w1 ⟨rfl,hb1⟩;have HB1:=Qa hb1;clear hb1)
  | (go_at_call 42;refine (iQ.out _ HB1.out).mono ?_;rintro e w3 ⟨w2,oP,pv,cv,vh,m,o,M,rfl,hb2,hF,hR,hE⟩)
  | fail)
 obtain⟨ph,ch,rfl⟩:∃ ph ch,vh=.slice ph M.past.length ch:=by obtain⟨_,a,c,e,_⟩:=hE;exact⟨a,c,e⟩
 obtain⟨R,dI⟩:=hR.rd;have hpl:=hR.run.ok.pl;obtain⟨nh,dJ⟩:=Ja0 M.past.length;have hch:nh<=ch:=by obtain⟨_,a,c,e,hc,_⟩:=hE;injection e with _ _ e3;rw[e3,dJ];exact hc
 obtain⟨k,hk⟩:=Ja0 (pk cut (nh+1));have hkn:k<=nh:=by have:=Pm cut (n:=nh+1) (by omega);omega
 rw[<-dJ]at hpl;obtain⟨R1,hr1,hI1,hX⟩:=qpf dI.co dI.rd (k:=k) (by omega)
 have hr:=dI.rd;have wV:=uj dI.co hr;have HT1:=Qa (fun (W:Aa)(hb:Ae w3.1.size w3 W)=>by
  have h:=mj uJ.out hF (qe hR.run.old hb) (hE.below hb) (by omega)
  rw[hr,<-dJ]at h;exact h)
 have HT2:=Qa (fun (W:Aa)(hb:Ae w3.1.size w3 W)=>by
  have h:=mj uJ.out hF (qe hR.run.old hb) ((hE.below hb).take (k:=k) (by omega)) (by rw[Qp];omega)
  rw[hr1]at h;exact h)
 have vF:wrap64 ((nh:Int)+1)=(nh:Int)+1:=IntWalk.wrap64_in _ (by omega)
 have vG:IntKind.i64.wrap ((nh:Int)+1)=(nh:Int)+1:=IntWalk.i64_in _ (by omega)
 have yN:=Qa (fun (W:Aa)=>show Ab Tryz.prog 44 #[I Z cut,I Z ((nh:Int)+1)] W fun e w'=>e=O (I Z k)/\W=w' from by rw[hk];exact sa cut HCu.out (nh+1) (by omega) (by omega) W)
 have sW:=Qa wV;have HI1:=Qa hI1;have HX:=Qa hX;have HB3:=Qa (show Ae w.1.size w w3 from qe (qe HB1.out hb2) hR.run.old);have pW:=Qa (TS _ (T4 (jr raw)) hr);have hbl:=pW.out.m;rw[Nat.zero_add,<-dJ]at hbl;have HKl:=Qa (show (M.past.take k).length=k from by rw[Qp];omega)
 have gT:(k:Int)<=(nh:Int):=by omega
 have hkJ:(k:Int)<=(ch:Int):=by omega
 have hk0:(0:Int)<=(k:Int):=by omega
 rw[<-dJ];have oz:=Qa (And.intro hpl hbl);have jT:=Qa dJ;clear hk hE hr hr1 hI1 wV hX hb2 hR dI hpl hbl hF hch dJ;go_upto_region 5 with fail;go_upto_region 6 with (first
  | (go_at_call 44;refine (yN.out _).mono ?_;rintro e w4 ⟨rfl,rfl⟩)
  | fail)
 clear vF vG;go_upto_region 7 with (first
  | (go_at_call 43;refine (HT1.out _ (qd w3)).mono ?_;rintro e w4 h4;obtain⟨Ma,pa,ca,oa,rfl,hb4,wZ,xA⟩:=h4.yes;have sZ:=Qa wZ;have tQ:=Qa xA;have mE:=Qa hb4;clear h4 wZ xA hb4)
  | fail)
 go_upto_region 8 with (first
  | (go_at_call 43;refine (HT2.out _ mE.out).mono ?_;rintro e w5 h5;obtain⟨Mb,pb,cb,ob,rfl,hb5,hMb,hTb⟩:=h5.yes;have HMb:=Qa hMb;have HTb:=Qa hTb;have gN:=Qa hb5;clear h5 hMb hTb hb5)
  | fail)
 obtain⟨na,hna⟩:=Ja0 Ma.length;obtain⟨nb,hnb⟩:=Ja0 Mb.length;have la:na=R.M.length:=by rw[hna,<-sZ.out,Qg]
 have lb:nb=R1.M.length:=by rw[hnb,<-HMb.out,Qg]
 have hab:nb<=na:=by have:=HX.out.len;omega
 have hgt:¬((na:Int)<(nb:Int)):=by omega
 have tF:=Qa hna;have HNb:=Qa hnb;have kV:=Qa (show na<=2000 from by have:=oz.out;omega)
 have HLb:=Qa lb;rw[<-hna]at tQ ⊢;rw[<-hnb]at HTb ⊢;clear la lb hna hnb hkJ hk0;go_wp2_with fail;go_loopw [16] (fun ix wr=>∃ i:Nat,ix=I Z i/\i<=na/\Ae w5.1.size w5 wr) (fun ix _=>na-(intOf ix).toNat)
 case atStart=>exact⟨0,rfl,Nat.zero_le _,qd w5⟩
 case round =>
  obtain⟨i,rfl,hin,hbw⟩:=hrel;have mF:=Qa hbw;clear hgt;by_cases hlt:i<na
  ·have iI:(i:Int)<(na:Int):=by omega
   have HW:=Qa (jd i (by have:=kV.out;omega))
   obtain⟨ma,oO⟩:∃ ma,Ma[i]?=some ma:=⟨_,Qb (by rw[<-tF.out];exact hlt)⟩
   have hxa:R.M[i]?=some ma.x:=by rw[<-sZ.out,Qj,oO];rfl
   obtain⟨ga,ca',pA,cA,pT,cT,ev,hca,e1,e2,fa,qC⟩:=((tQ.out.below gN.out).below hbw).at oO;injection ev with ev en iY;clear en;subst ev iY;rw[<-tF.out]at hca;have hlen:=NP sW.out hxa;obtain⟨⟨xt,xb,kR,kQ,nU,gM,nT,uC,kM,mD⟩,xva,xvt⟩:=ma;simp only at e1 e2 qC hxa hlen;subst e1 e2;have a0:wr.cell? ⟨ga,i*10,none⟩=some (I Z xt):=fa 0 _ rfl;have a1:wr.cell? ⟨ga,i*10+1,none⟩=some (I Z xb):=fa 1 _ rfl;have a2:wr.cell? ⟨ga,i*10+2,none⟩=some (I Z kR):=fa 2 _ rfl;have a3:wr.cell? ⟨ga,i*10+3,none⟩=some (I Z kQ):=fa 3 _ rfl;have a4:wr.cell? ⟨ga,i*10+4,none⟩=some (I Z nU):=fa 4 _ rfl;have a5:wr.cell? ⟨ga,i*10+5,none⟩=some (I Z gM):=fa 5 _ rfl;have a6:wr.cell? ⟨ga,i*10+6,none⟩=some (.slice pA nT.length cA):=fa 6 _ rfl;have a7:wr.cell? ⟨ga,i*10+7,none⟩=some (.slice pT uC.length cT):=fa 7 _ rfl;have a8:wr.cell? ⟨ga,i*10+8,none⟩=some (I Z kM):=fa 8 _ rfl;have a9:wr.cell? ⟨ga,i*10+9,none⟩=some (I Z mD):=fa 9 _ rfl;by_cases hib:i<nb
   ·have iB:(i:Int)<(nb:Int):=by omega
    have iB2:¬((nb:Int)<=(i:Int)):=by omega
    obtain⟨mb,hmb⟩:∃ mb,Mb[i]?=some mb:=⟨_,Qb (by rw[<-HNb.out];exact hib)⟩
    have hxb:R1.M[i]?=some mb.x:=by rw[<-HMb.out,Qj,hmb];rfl
    obtain⟨gb,cb',pB,cB,pU,cU,ev,hcb,e1,e2,fb,acB⟩:=(HTb.out.below hbw).at hmb;injection ev with ev en iY;clear en;subst ev iY;rw[<-HNb.out]at hcb;have hO:=M1 HI1.out HKl.out HX.out hxa hxb;have hbd:=pW.out.a _ (Qe hxa);obtain⟨⟨yt,yb,yst,yse,yfr,yte,yac,yat,qN,yve⟩,yva,yvt⟩:=mb;simp only at e1 e2 acB hO hbd;subst e1 e2;have b0:wr.cell? ⟨gb,i*10,none⟩=some (I Z yt):=fb 0 _ rfl;have b1:wr.cell? ⟨gb,i*10+1,none⟩=some (I Z yb):=fb 1 _ rfl;have b2:wr.cell? ⟨gb,i*10+2,none⟩=some (I Z yst):=fb 2 _ rfl;have b3:wr.cell? ⟨gb,i*10+3,none⟩=some (I Z yse):=fb 3 _ rfl;have b4:wr.cell? ⟨gb,i*10+4,none⟩=some (I Z yfr):=fb 4 _ rfl;have b5:wr.cell? ⟨gb,i*10+5,none⟩=some (I Z yte):=fb 5 _ rfl;have b6:wr.cell? ⟨gb,i*10+6,none⟩=some (.slice pB yac.length cB):=fb 6 _ rfl;have b7:wr.cell? ⟨gb,i*10+7,none⟩=some (.slice pU yat.length cU):=fb 7 _ rfl;have b8:wr.cell? ⟨gb,i*10+8,none⟩=some (I Z qN):=fb 8 _ rfl;have b9:wr.cell? ⟨gb,i*10+9,none⟩=some (I Z yve):=fb 9 _ rfl;have lgb:gb<wr.1.size:=qh b0;obtain⟨rfl,rfl,rfl,rfl,rfl,hfr,hO⟩:=hO;have hne:∀ a:Int,(a != a)=false:=fun a=>by simp
    have n1:=hne xt;have n2:=hne xb;have n3:=hne kR;have n4:=hne kQ;have n5:=hne nU;have hA:=kV.out;have hP:=oz.out;rcases hO with ⟨hO,t1,t2⟩|⟨t1,rfl,t2,t3⟩
    ·injection hO with _ _ _ _ _ h6 h7 h8 h9 h10
     subst h6 h7 h8 h9 h10;have HSm:=Qa (fun (W:Aa)(hb:Ae wr.1.size wr W)=>show Ab Tryz.prog 45 #[Ak #[I Z xt,I Z xb,I Z kR,I Z kQ,I Z nU,I Z gM,.slice pA nT.length cA,.slice pT uC.length cT,I Z kM,I Z mD],Ak #[I Z xt,I Z xb,I Z kR,I Z kQ,I Z nU,I Z gM,.slice pB nT.length cB,.slice pU uC.length cU,I Z kM,I Z mD]] W fun e w'=>e=O (.bool true)/\Ae W.1.size W w' from qpo ⟨xt,xb,kR,kQ,nU,gM,nT,uC,kM,mD⟩ (qC.below hb) (acB.below hb) hlen (by have:=jT.out;simp only;omega))
     obtain⟨nx,hnx⟩:=Ja0 nT.length;obtain⟨ny,hny⟩:=Ja0 uC.length;rw[<-hnx]at a6 b6 HSm;rw[<-hny]at a7 b7 HSm;clear fa fb qC acB hxa hxb oO hmb hlen hbd hnx hny hbw hne hA hP;obtain⟨hw1,hw2⟩:=HW.out;go_wp2_with (first
      | (go_at_call 45;refine (HSm.out _ (qc (qc (qd wr) _) _)).mono ?_;rintro e w8 ⟨rfl,gB⟩;have uF:=Qa (qe mF.out (qe (qc (qc (qd wr) _) _) gB));clear gB)
      | fail)
     go_roundw
     case rel=>exact⟨i+1,by simp,hlt,uF.out⟩
     case measure=>clear hw1 hw2;simp[intOf];omega
    ·obtain⟨nx,hnx⟩:=Ja0 nT.length
     obtain⟨nz,hnz⟩:=Ja0 yac.length;obtain⟨ny,hny⟩:=Ja0 uC.length;obtain⟨nv,hnv⟩:=Ja0 yat.length;rw[<-hnx]at a6 t3;rw[<-hnz]at b6 t3;rw[<-hny]at a7;rw[<-hnv]at b7;have hlt3:¬((nx:Int)<(nz:Int)):=by omega
     have hyt:¬((0:Int)<=yte):=by omega
     have uF:=Qa (fun (x y:Obj)=>show Ae w5.1.size w5 ((wr.alloc x).alloc y) from qe mF.out (qc (qc (qd wr) _) _));clear fa fb qC acB hxa hxb oO hmb hlen hbd hnx hny hnz hnv hbw hne hA hP t1 t3;rcases t2 with t2|⟨t2,t3⟩
     ·have hxt:¬((0:Int)<=gM):=by omega
      obtain⟨hw1,hw2⟩:=HW.out;clear t2;go_wp2_with fail;go_roundw
      case rel=>exact⟨i+1,by simp,hlt,uF.out _ _⟩
      case measure=>clear hw1 hw2;simp[intOf];omega
     ·have hxt:¬(gM<(k:Int)):=by omega
      obtain⟨hw1,hw2⟩:=HW.out;clear t3;go_wp2_with fail;go_roundw
      case rel=>exact⟨i+1,by simp,hlt,uF.out _ _⟩
      case measure=>clear hw1 hw2;simp[intOf];omega
   ·have iB:¬((i:Int)<(nb:Int)):=by omega
    have iB2:(nb:Int)<=(i:Int):=by omega
    have hfr:=HX.out.new i _ (by rw[<-HLb.out];omega) hxa
    simp only at hfr;have hfr2:¬(nU<(k:Int)):=by omega
    obtain⟨nx,hnx⟩:=Ja0 nT.length;obtain⟨ny,hny⟩:=Ja0 uC.length;rw[<-hnx]at a6;rw[<-hny]at a7;have uF:=Qa (fun (x:Obj)=>show Ae w5.1.size w5 (wr.alloc x) from qe mF.out (qc (qd wr) _));obtain⟨hw1,hw2⟩:=HW.out;clear fa qC hxa oO hlen hnx hny hbw hfr;go_wp2_with fail;go_roundw
    case rel=>exact⟨i+1,by simp,hlt,uF.out _⟩
    case measure=>clear hw1 hw2;simp[intOf];omega
  ·obtain rfl:i=na:=by omega
   go_wp2_with fail;go_ret;exact⟨rfl,qe HB3.out (qe mE.out (qe gN.out mF.out))⟩
