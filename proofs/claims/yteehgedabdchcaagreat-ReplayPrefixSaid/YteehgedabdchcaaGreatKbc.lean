import Derived.Test.YteehgedabdchcaaGreatKar
set_option linter.all false
set_option maxRecDepth 1000000
set_option maxHeartbeats 0
open Go renaming World->Aa,Calls->Ab,Value->Ac
open Go.RowKit renaming Below->Ae
open Go.Value renaming int->I,slice->Ah,tuple->Aj
open Go.IntKind renaming i64->Z
open Go.Ending renaming returned->O
open Go.Builtin renaming zeroCells->Ad,clear_->af,append_->ai
open List renaming eq_nil_of_length_eq_zero->Ai,take_append_of_le_length->aa,take_length->ag
open Go.Proofs.Tryz
open Go.Proofs.Tryz renaming prog->ARt
namespace Go.Proofs.YteehgedabdchcaaGreat
section
open Go.RowKit Hp
attribute [local go_sem ↓] Go.wp_at_zero Go.wp_at_succ
section
variable {w w' : Aa} {o o' : Own} {y : A6} {S : An} {i : Nat}
def An.AL (S:An)(i:Nat):BD:=S.AG i (S.AY i)
def qln (args:Array Ac)(w:Aa):(callFunc 78 args).run ARt w=.ok (.enter 78 args) w:=enters_of func78 (by kernel_rfl) rfl args w
def qgk (h:Aq w o y S)(hk:S.ok)(hi:i<S.Au.length)(hh:(S.t i).log.holds=[])(hn:S.Av≠(i:Int)){b1:Nat}(j1:Al w b1 #[ptr y.sb] 24) :
  Ab ARt 78 #[ptr (y.xb i),ptr b1] w fun e w'=>e=O (Aj #[I Z 0,I Z 0])/\Bl y (S.tx i (S.t i).ended) o w w':=by
 have hx':=h.Au i _ (An.AV hi);obtain⟨vr,vk,vh,vu,hl⟩:=hx'.log;have HL:=Qa (UB hl (hk.Ee hi).ok (y.l.id+1,0));rw[hh]at HL;have HE:=Qa (fun w' (hw:Ae w.1.size w w')=>SI (h.below hw) (An.AV hi))
 have c1:=j1.cell;obtain⟨vt,jx,_⟩:=hx'.AM;unfold zw at jx;have cx:=jx.cell;obtain⟨vq,vl,vm,jb,_⟩:=h.AM;unfold qw at jb;have hne:(S.Av==(i:Int))=false:=by simpa using hn
 have hne2:¬S.Av=(i:Int):=hn;generalize S.tx i (S.t i).ended=S2 at *;clear h hk hh hx' hl hn hi;go_enter func78,ntmps78;go_wp2_with fail;refine HL.out.mono ?_
 rintro e w1⟨v',rfl,hr,hb1⟩
 obtain⟨pa,cp,rfl⟩:=hr.AS;have c1:=(j1.below hb1 j1.lt).cell;have cx:=(jx.below hb1 jx.lt).cell;have c:=(jb.below hb1 jb.lt).cell;have s1:=(j1.below hb1 j1.lt).lt;go_upto_region 2 with fail;go_quiet (fail);go_wp2_with fail;refine (HE.out _ (qx hb1 _)).mono ?_
 rintro e w2⟨rfl,o2,hS2,hs2⟩
 go_wp2_with fail;go_ret2;exact⟨rfl,o2,hS2,(Stp.of_below (qx hb1 _)).trans hs2⟩
def NM (h:Aq w o y S) (hk:S.ok) (hm:S.now<S.most) :
  Ab ARt 83 #[ptr y.ck] w fun e w'=>e=O (Aj #[I Z ((S.now+1:Nat):Int),.bool true])/\Aq w' o y { S with now:=S.now+1 }/\Stp (fun t=>t=(y.l.id,10)) o o w w':=by
 refine (GF h.ck (by omega) (by omega) (by have:=hk.n2;omega)).mono ?_
 rintro e w'⟨rfl,hb,hw⟩
 have hs:Stp (fun t=>t=(y.l.id,10)) o o w w':=Stp.BE hw h.oc
 exact⟨by simp,h.clock (n:=S.now+1) (by simpa using hb) hs,hs⟩
def qgi (h:Aq w o y S)(hk:S.H.wf)(p v:Nat)(hv:v<=2199023255552) :
  Ab ARt 145 #[ptr y.l.h,I Z p,.int .u64 v] w fun e w'=>e=O (I Z ((S.H.AJ p v).2:Nat))/\Bl y { S with H:=(S.H.AJ p v).1 } o w w':=by
 obtain⟨vc,vo,vw,vf,f,hh⟩:=h.hp;unfold Hp.AJ
 cases hp:lk S.H.cur p with
 | none=>exact (ri hh hk.ok hp v).mono fun _ _⟨a,b⟩=>⟨a,h.D1 b⟩
 | some ob =>
  refine (nk hh hk.ok hp v hv).mono ?_;rintro e w'⟨rfl,_,h',hw⟩;obtain⟨a1,a2⟩:=hh.Fs h' hw;exact⟨rfl,h.Dl a1 a2⟩
def qh8 (h:Aq w o y S)(hk:S.H.wf)(p v:Nat)(hv:v<=1099511627776) :
  Ab ARt 84 #[ptr y.sb,I Z p,I Z v] w fun e w'=>e=O (Aj #[])/\Bl y { S with H:=(S.H.AJ p (2*v)).1 } o w w':=by
 have HC:=qgi h hk p (2*v) (by omega)
 have HO:=Qa (fun w=>Tp v ⟨by omega,by omega⟩ w)
 have ei:((2*v:Nat):Int)=2*(v:Int):=by omega
 rw[ei]at HC;generalize (S.H.AJ p (2*v))=r at *;replace HC:=Qa HC;generalize 2*(v:Int)=q at HC HO;obtain⟨vq,vl,vm,hb,_⟩:=h.AM;unfold qw at hb;have c:=hb.cell;clear h hk hv ei;go_enter func84,ntmps84;go_wp2_with fail;refine (HO.out _).mono ?_
 rintro e w1 ⟨rfl,rfl⟩
 go_wp2_with fail;refine HC.out.mono ?_
 rintro e w2 ⟨rfl,hl⟩
 go_wp2_with fail;go_end0;exact⟨rfl,hl⟩
def qg8 {S:An}{i k:Nat}{p:Nat}(hp:(S.t i).log.reads[k]?=some p)(hc:xz i (S.t i).start (S.H.sec p)=true):S.B2 i=true:=by
 unfold An.B2;rw[List.any_eq_true];exact⟨p,Qe hp,hc⟩
def qij {S:An}{i:Nat}(h:∀ (k p:Nat),(S.t i).log.reads[k]?=some p->xz i (S.t i).start (S.H.sec p)=false):S.B2 i=false:=by
 unfold An.B2;rw[List.any_eq_false];intro p hp;obtain⟨k,hk⟩:=List.getElem?_of_mem hp;rw[h k p hk];simp
def qev (h0:Aq w o y S) (hk:S.ok) (hi:i<S.Au.length) (hl:(S.t i).live=true) (hw:¬((S.t i).log.holds=[]/\S.Av≠(i:Int)))
  {b1:Nat} (j1:Al w b1 #[ptr y.sb] 24) (t1:o b1=(y.l.id+1,0)) :
  Ab ARt 78 #[ptr (y.xb i),ptr b1] w fun e w'=>e=O (Aj #[I Z (S.AY i).v,I Z (S.AY i).e])/\Bl y (S.AY i).S o w w':=by
 have hm:S.now<S.most:=by have:=UW S.Au i _ (An.AV hi) hl;have:=hk.lv;omega
 have hx:=An.AV hi;have nW:Hid (S.B2 i=true->S.AY i=⟨S,0,141⟩):=fun hc=>by unfold An.AY;rw[if_neg hw,if_pos hc]
 have fZ:Hid (S.B2 i=false->S.AY i=⟨(S.CF i).tx i (S.t i).ended,(S.now:Int)+1,0⟩):=fun hc=>by unfold An.AY;rw[if_neg hw,if_neg (by rw[hc];simp)]
 have HCt:Hid (∀ (k p:Nat),(S.t i).log.reads[k]?=some p->xz i (S.t i).start (S.H.sec p)=true->S.B2 i=true):=fun k p=>qg8
 have HCn:Hid ((∀ (k p:Nat),(S.t i).log.reads[k]?=some p->xz i (S.t i).start (S.H.sec p)=false)->S.B2 i=false):=qij;have uO:Hid (S.CF i=if S.Av=(i:Int) then { S with now:=S.now+1,H:=S.H.Cf (S.t i).log.holds (S.now+1),Av:=-1,version:=S.now+1 } else { S with now:=S.now+1,H:=S.H.Cf (S.t i).log.holds (S.now+1) }):=rfl
 generalize S.AY i=RC at *;obtain⟨x,hxe⟩:=Ja0 (S.t i);rw[<-hxe]at hx hl hw fZ HCt HCn uO;have hwI:x.log.holds=[]->S.Av=(i:Int):=fun e=>Classical.byContradiction fun h=>hw ⟨e,h⟩
 have iH:=Qa (fun (w':Aa) (o':Own) (h':Aq w' o' y S)=>NM h' hk hm)
 have hlf:=hk.Ee hi;rw[<-hxe]at hlf;have hM2:S.now+1<=1099511627776:=by have:=hk.n2;omega
 have HV0:Hid ((S.now:Int)+1=((S.now+1:Nat):Int)):=by show (S.now:Int)+1=_;omega
 obtain⟨V,hV⟩:=Ja0 (S.now+1);rw[<-hV]at iH hM2 uO HV0;clear hV hm;obtain⟨o1,ho1⟩:∃ o1,o1=ext o w.1.size (y.l.id+1,0):=⟨_,rfl⟩;have h:=h0.retag (o':=o1) fun b hb=>by rw[ho1];exact qr hb
 have hS0:Stp (qo y) o o1 w w:=by rw[ho1];exact (Stp.refl _ o w).ext _ _ (Qk _)
 have dN:∀ n,w.1.size<=n->ext o1 n (y.l.id+1,0)=o1:=fun n hn=>by rw[ho1];exact Sz _ _ _ _ hn
 have u1:o1 b1=(y.l.id+1,0):=by rw[ho1,qr j1.lt];exact t1
 clear ho1 h0 t1;have hx':=h.Au i x hx;obtain⟨vr,vk,vh,vu,hll⟩:=hx'.log;have HLH:=Qa (UB hll hlf.ok (y.l.id+1,0));have HLR:=Qa (fun w' (hw:Ae w.1.size w w')=>qoh (hll.below hw) hlf.ok (y.l.id+1,0))
 obtain⟨vt,jx,_⟩:=hx'.AM;unfold zw at jx;obtain⟨vq,vl,vm,jb,_⟩:=h.AM;unfold qw at jb;have hlen1:x.log.reads.length<=200:=by have:=hlf.ok.r;have:=hlf.ok.mr;omega
 have mQ:x.log.holds.length<=200:=by have:=hlf.ok.h;have:=hlf.ok.mu;omega
 have H:=Qa h;have HK:=Qa hk;have HS:=Qa hS0;have HE:=Qa dN;have HX:=Qa hx;have ib:=Qa u1;have eH:=Qa hM2;obtain⟨rs,hrs⟩:=Ja0 x.log.reads;obtain⟨hs,eu⟩:=Ja0 x.log.holds;rw[<-hrs]at HLR hlen1 HCt HCn;rw[<-eu]at HLH mQ hwI uO;have HWr:=Qa hwI;have HXE:=Qa hxe;clear h hk hS0 dN hx hx' hll hlf hrs eu u1 hw hwI hl hi hM2 hxe;have c1:=j1.cell;have cx:=jx.cell;go_enter func78,ntmps78;go_wp2_with fail;refine HLH.out.mono ?_
 rintro e w1 ⟨v1,rfl,hr1,hb1⟩
 obtain⟨jQ,gP,rfl⟩:=hr1.AS;rw[HE.out _ (Qk _)]at hr1;clear c1 cx;have c1:=(j1.below hb1 j1.lt).cell;have s1:=(j1.below hb1 j1.lt).lt;have cx:=(jx.below hb1 jx.lt).cell;have cb:=(jb.below hb1 jb.lt).cell;go_upto_region 2 with fail
 have hcase:((((hs.length:Nat):Int)==0)=true/\(S.Av==(i:Int))=true/\(S.Av != (i:Int))=false)\/(((hs.length:Nat):Int)==0)=false:=by
  by_cases hl0:hs.length=0
  ·have hh:S.Av=(i:Int):=HWr.out (Ai hl0)
   have xG:(S.Av==(i:Int))=true:=by rw[beq_iff_eq];exact hh
   exact .inl ⟨by rw[beq_iff_eq];omega,xG,by rw[bne,xG];rfl⟩
  ·exact .inr (by rw[Qh];omega)
 rcases hcase with ⟨hlb,xG,hhn⟩|hlb
 all_goals
  go_quiet (fail);obtain⟨W,hW⟩:=Ja0 (w1.drewN nq);have hbW:Ae w.1.size w W:=by rw[hW];exact qx hb1 _
  have hr2:Row W o1 (y.l.id+1,0) 131 2 (.slice jQ hs.length gP) hs.length (qk hs):=by rw[hW];exact hr1.below (qx (qd _) _)
  rw[<-hW];clear hW hr1 hb1 c1 s1 cx cb;have cx:=(jx.below hbW jx.lt).cell;go_wp2_with fail;refine (HLR.out _ hbW).mono ?_;rintro e w2 ⟨v2,rfl,hrr,hb2⟩;obtain⟨wH,cp2,rfl⟩:=hrr.AS;rw[HE.out _ hbW.size]at hrr;have hr3:=hr2.below hb2;have hbW2:=qe hbW hb2;clear cx hr2 hb2 hbW;go_wp2_with fail;go_loopw [40] (fun ix wr=>∃ k:Nat,ix=I Z k/\k<=rs.length/\Ae w2.1.size w2 wr/\∀ j p,j<k->rs[j]?=some p->xz i x.start (S.H.sec p)=false) (fun ix _=>rs.length-(intOf ix).toNat)
  case atStart=>exact⟨0,rfl,Nat.zero_le _,qd _,fun j p h=>by omega⟩
  case round =>
   obtain⟨k,rfl,hkl,hbr,hnc⟩:=hrel;have HNC:=Qa hnc;clear hnc;have hbw:=qe hbW2 hbr;have c1:=(j1.below hbw j1.lt).cell;by_cases hlt:k<rs.length
   ·have kI:(k:Int)<(rs.length:Int):=by omega
    have lQ:=Qb hlt;obtain⟨p,hp⟩:=Ja0 (rs[k]);rw[<-hp]at lQ;rcases (hrr.below hbr).form with ⟨_,h0⟩|⟨g,cap,e,_⟩
    ·omega
    ·injection e with e1 _ e3
     subst e1 e3;have q0:wr.cell? ⟨g,k,none⟩=some (I Z p):=(hrr.below hbr).cells k _ (by rw[Qj,lQ];rfl)
     have HC:=(U1 (H.out.below hbw) HK.out HX.out p);have HGK:=Qa lQ;clear lQ hp
     cases hcl:xz i x.start (S.H.sec p) with
     | false =>
      rw[hcl]at HC;have HC:=Qa HC;have sO:=Qa hcl;clear hcl;go_wp2_with fail;refine HC.out.mono ?_;rintro e w3 ⟨rfl,hb3⟩;go_wp2_with fail;go_roundw
      case rel =>
       refine⟨k+1,by simp,by omega,qe hbr hb3,fun j q hj hq=>?_⟩
       by_cases e:j=k
       ·subst e;rw[HGK.out]at hq;injection hq with hq;rw[<-hq];exact sO.out
       ·exact HNC.out j q (by omega) hq
      case measure=>simp[intOf];omega
     | true =>
      rw[hcl]at HC;have HC:=Qa HC;have tJ:=Qa (nW.out (HCt.out k p HGK.out hcl));have HLf:=Qa (fun (W:Aa) (hb:Ae w.1.size w W)=>show Bl y S o w W from ⟨o1,H.out.below hb,HS.out.trans (Stp.of_below hb)⟩);clear hcl;go_wp2_with fail;refine HC.out.mono ?_;rintro e w3 ⟨rfl,hb3⟩;go_wp2_with fail;go_ret2;rw[tJ.out];exact⟨rfl,HLf.out _ (qe hbw hb3)⟩
   ·obtain rfl:k=rs.length:=by omega
    have tJ:=Qa (fZ.out (HCn.out fun k p hp=>HNC.out k p (Qc.1 hp).1 hp));clear hlt;have HT:=Qa (iH.out _ _ (H.out.below hbw));have hr4:=hr3.below hbr;have j4:=j1.below hbw j1.lt;have cb:=(jb.below hbw jb.lt).cell;go_wp2_with fail;refine HT.out.mono ?_;rintro e w3 ⟨rfl,dB,hs3⟩;have hck:¬(fun t=>t=(y.l.id,10)) (y.l.id+1,0):=fun e=>by injection e with e _;omega
    have dQ:=hr4.Ao hs3 hck;have j5:=j4.Ao hs3 (by rw[ib.out];exact hck)
    have oW:Stp (qo y) o1 o1 w w3:=(Stp.of_below hbw).trans (hs3.mono fun t ht=>by rw[ht];rfl)
    have hS5:Aq w3 o1 y (({ S with now:=V }:An).h (({ S with now:=V }:An).H.Cf [] V)):=dB;obtain⟨S1,hS1⟩:∃ S1:An,S1={ S with now:=V }:=⟨_,rfl⟩;rw[<-hS1]at hS5;have iW:=Qa hS1;clear hr4 j4 dB hs3 c1 cb hck hS1;go_wp2_with fail;go_loopw [59] (fun ix wr=>∃ (k:Nat) (o2:Own),ix=I Z k/\k<=hs.length/\Aq wr o2 y (S1.h (S1.H.Cf (hs.take k) V))/\Row wr o2 (y.l.id+1,0) 131 2 (.slice jQ hs.length gP) hs.length (qk hs)/\Al wr b1 #[ptr y.sb] 24/\o2 b1=(y.l.id+1,0)/\Stp (qo y) o1 o2 w wr) (fun ix _=>hs.length-(intOf ix).toNat)
    case atStart=>exact⟨0,o1,rfl,Nat.zero_le _,hS5,dQ,j5,ib.out,oW⟩
    case round =>
     clear dQ j5 oW hS5;obtain⟨k,o2,rfl,hkh,hA,hr,jb1,ub,hst⟩:=hrel;obtain⟨wo,rfl⟩:=Ja0 wr;by_cases hlt:k<hs.length
     ·have kI:(k:Int)<(hs.length:Int):=by omega
      have lQ:=Qb hlt;obtain⟨z,hz⟩:=Ja0 (hs[k]);rw[<-hz]at lQ;have htk:hs.take (k+1)=hs.take k++[z]:=by rw[hz];exact List.take_succ_eq_append_getElem hlt
      rcases hr.B7 with ⟨_,h0⟩|⟨g,cap,e,hn⟩
      ·have:=yu hs k z lQ
       rw[h0]at this;simp at this
      ·injection e with e1 _ e3
       subst e1 e3;obtain⟨r0,r1⟩:=hr.Ez k z lQ;obtain⟨p,v⟩:=z;have q0:wo.cell? ⟨g,k*2,none⟩=some (I Z p):=r0;have q1:wo.cell? ⟨g,k*2+1,none⟩=some (I Z v):=r1;clear r0 r1;have hok:(S1.h (S1.H.Cf (hs.take k) V)).H.wf/\Hid (∀ W,Ae wo.1.size wo W->Ab ARt 84 #[ptr y.sb,I Z p,I Z V] W fun e w'=>e=O (Aj #[])/\Bl y (S1.h (S1.H.Cf (hs.take (k+1)) V)) o2 W w'):=by
        have hk9:(S.h (S.H.Cf (hs.take k) V)).ok:=An.En _ HK.out eH.out;have e9:S1.H.Cf (hs.take k) V=S.H.Cf (hs.take k) V:=by rw[iW.out]
        refine⟨by rw[iW.out];exact hk9.H,fun W hW=>?_⟩
        have e8:S1.H.Cf (hs.take (k+1)) V=((S1.H.Cf (hs.take k) V).AJ p (2*V)).1:=by rw[htk];exact qpn _ _ _ _
        rw[e8];exact qh8 (hA.below hW) (by rw[iW.out];exact hk9.H) p V eH.out
       obtain⟨_,HR1⟩:=hok;obtain⟨l2,hl2⟩:=Ja0 (S1.h (S1.H.Cf (hs.take k) V));rw[<-hl2]at hA;obtain⟨l3,hl3⟩:=Ja0 (S1.h (S1.H.Cf (hs.take (k+1)) V));rw[<-hl3]at HR1;have HL3:=Qa hl3;clear hl2 hl3 htk hz lQ;have HR2:=Qa (HR1.out _ (qc (qd _) (.cells #[I Z p,I Z v] 131)));have nK:=jb1.alloc (.cells #[I Z p,I Z v] 131);have hr1:=hr.below (qc (qd _) (.cells #[I Z p,I Z v] 131));have dZ:=hst.alloc (.cells #[I Z p,I Z v] 131);have c1:=jb1.cell 0;have s1:=jb1.lt;clear hA hr;go_wp2_with fail;refine HR2.out.mono ?_;rintro e w5 ⟨rfl,o5,hS5,hs5⟩;have dQ:=hr1.Ao hs5 (qy y);have j5:=nK.Ao hs5 (by rw[ub];exact qy y)
       have ub5:o5 b1=(y.l.id+1,0):=(hs5.tags _ nK.lt).trans ub;have oW:=dZ.trans hs5;go_wp2_with fail;go_roundw
       case rel=>exact⟨k+1,o5,by simp,by omega,by rw[<-HL3.out];exact hS5,dQ,j5,ub5,oW⟩
       case measure=>simp[intOf];omega
     ·obtain rfl:k=hs.length:=by omega
      rw[ag]at hA;clear hlt;try clear xG hhn
      have hx6:(S1.h (S1.H.Cf hs V)).Au[i]?=some x:=by show S1.Au[i]?=_;rw[iW.out];exact HX.out
      have hho:(S1.h (S1.H.Cf hs V)).Av=S.Av:=by show S1.Av=_;rw[iW.out]
      obtain⟨vq6,vl6,vm6,jbb,hrw⟩:=hA.AM;have Ahd:=jbb;unfold qw at jbb;rw[hho]at jbb;obtain⟨vt6,jx6,_⟩:=(hA.Au i x hx6).AM;unfold zw at jx6;have cx:=jx6.cell;have cb:=jbb.cell;have zb:=jbb.free;have sb:=jbb.lt;have c1:=jb1.cell 0;have s1:=jb1.lt;by_cases hh:S.Av=(i:Int)
      ·have xG:(S.Av==(i:Int))=true:=by rw[beq_iff_eq];exact hh
       have hos:o2 y.sb=(y.l.id,11):=hA.os;have nsb:b1≠y.sb:=fun e=>by rw[e,hos]at ub;injection ub with h1 _;omega
       have e1:RC.S=({ S1.h (S1.H.Cf hs V) with Av:=-1,version:=V }:An).tx i x.ended:=by
        rw[tJ.out];show (S.CF i).tx i x.ended=_;rw[uO.out,if_pos hh,iW.out];rfl
       have HE1:=Qa e1;have hfin:=Qa (fun (W:Aa) (hb:Ae wo.1.size wo W) =>
        have hk7:Stp (fun t=>t=(y.l.id,11)) o2 o2 wo ((W.setCell ⟨y.sb,6,none⟩ (I Z (-1))).setCell ⟨y.sb,7,none⟩ (I Z V)):=((Stp.of_below hb).setCell (by show o2 y.sb=_;exact hos) _).setCell (by show o2 y.sb=_;exact hos) _
        have hs7:Stp (kl y) o2 o2 wo ((W.setCell ⟨y.sb,6,none⟩ (I Z (-1))).setCell ⟨y.sb,7,none⟩ (I Z V)):=hk7.mono fun t ht=>by rw[ht];exact⟨rfl,.inl rfl⟩
        have oH:Aq ((W.setCell ⟨y.sb,6,none⟩ (I Z (-1))).setCell ⟨y.sb,7,none⟩ (I Z V)) o2 y { S1.h (S1.H.Cf hs V) with Av:=-1,version:=V }:=
         hA.own rfl rfl rfl rfl rfl (((Ahd.below hb Ahd.lt).set 6 (I Z (-1))).set 7 (I Z V)) ((⟨hrw.q,hrw.l,hrw.m⟩:B1 wo o2 y.l.id { S1.h (S1.H.Cf hs V) with Av:=-1,version:=V } vq6 vl6 vm6).Ao hk7 fun j h1 h2=>by simp;omega) hs7
        And.intro hs7 oH)
       clear hh hos e1;go_upto_region 17 with fail;go_quiet (fail);have HF:=Qa (hfin.out (wo.drewN nq) (qx (qd _) _));have iF:=Qa (SI HF.out.2 (i:=i) (x:=x) hx6);go_wp2_with fail;refine iF.out.mono ?_;rintro e w6 ⟨rfl,o6,eU,hs6⟩;go_wp2_with fail;go_ret2;refine⟨by rw[tJ.out,HV0.out];rfl,o6,?_,HS.out.trans (hst.trans ((HF.out.1.mono fun _=>mw).trans hs6))⟩
       rw[HE1.out];exact eU
      ·have xG:(S.Av==(i:Int))=false:=by rw[Qh];exact hh
       have e1:RC.S=(S1.h (S1.H.Cf hs V)).tx i x.ended:=by
        rw[tJ.out];show (S.CF i).tx i x.ended=_;rw[uO.out,if_neg hh,iW.out];rfl
       have HE1:=Qa e1;clear e1;go_upto_region 17 with fail;go_quiet (fail);have iF:=Qa (SI (hA.below (qx (qd _) nq)) (i:=i) (x:=x) hx6);go_wp2_with fail;refine iF.out.mono ?_;rintro e w6 ⟨rfl,o6,eU,hs6⟩;go_wp2_with fail;go_ret2;refine⟨by rw[tJ.out,HV0.out];rfl,o6,?_,HS.out.trans (hst.trans ((Stp.of_below (qx (qd _) _)).trans hs6))⟩
       rw[HE1.out];exact eU
end
section
variable {w w' : Aa} {o o' : Own} {y : A6} {S : An} {i : Nat}
def An.take (S:An)(i:Nat):BD:=S.AG i (S.Ca i)
def qig (h:Aq w o y S)(hi:i<S.Au.length)(hn:S.Av≠-1/\S.Av≠(i:Int)\/(S.t i).start<S.version){b1:Nat}(j1:Al w b1 #[ptr y.sb] 24) :
  Ab ARt 122 #[ptr (y.xb i),ptr b1] w fun e w'=>e=O (Aj #[I Z 0,I Z 141])/\Ae w.1.size w w':=by
 obtain⟨vt,jx,_⟩:=(h.Au i _ (An.AV hi)).AM;unfold zw at jx;obtain⟨vq,vl,vm,jb,_⟩:=h.AM;unfold qw at jb;have c1:=j1.cell;have cx:=jx.cell;have c:=jb.cell;have hcase:((S.Av != -1)=true/\(S.Av != (i:Int))=true)\/((S.Av != -1)=false/\((S.t i).start:Int)<(S.version:Int))\/((S.Av != -1)=true/\(S.Av != (i:Int))=false/\((S.t i).start:Int)<(S.version:Int)):=by
  by_cases e1:S.Av=-1
  ·right;left
   exact⟨by rw[e1];rfl,by omega⟩
  ·have b1:(S.Av != -1)=true:=by rw[bne_iff_ne];exact e1
   by_cases e2:S.Av=(i:Int)
   ·right;right
    exact⟨b1,by rw[e2];simp,by omega⟩
   ·exact .inl ⟨b1,by rw[bne_iff_ne];exact e2⟩
 clear h hi hn;generalize S.Av=hd at *;generalize S.t i=x at *;rcases hcase with ⟨hb1,hb2⟩|⟨hb1,hb2⟩|⟨hb1,hb2,hb3⟩
 all_goals
  go_enter func122,ntmps122;go_upto_region 1 with fail;go_quiet (fail);go_wp2_with fail;go_ret2;exact⟨rfl,qx (qd w) _⟩
def Aq.hold (h:Aq w o y S)(i:Nat){W:Aa}(hb:Ae w.1.size w W) :
  Aq (W.setCell ⟨y.sb,6,none⟩ (I Z i)) o y { S with Av:=(i:Int) }/\Stp (kl y) o o w (W.setCell ⟨y.sb,6,none⟩ (I Z i)):=by
 obtain⟨vq,vl,vm,jb,hrw⟩:=h.AM;have hk:Stp (fun t=>t=(y.l.id,11)) o o w (W.setCell ⟨y.sb,6,none⟩ (I Z i)):=(Stp.of_below hb).setCell (by show o y.sb=_;exact h.os) _
 have hs:Stp (kl y) o o w (W.setCell ⟨y.sb,6,none⟩ (I Z i)):=hk.mono fun t ht=>by rw[ht];exact⟨rfl,.inl rfl⟩
 exact⟨h.own (S':={ S with Av:=(i:Int) }) rfl rfl rfl rfl rfl ((jb.below hb jb.lt).set 6 (I Z i)) ((⟨hrw.q,hrw.l,hrw.m⟩:B1 w o y.l.id { S with Av:=(i:Int) } vq vl vm).Ao hk fun j h1 h2=>by simp;omega) hs,hs⟩
def Row.at2 {e:TypeId}{t:Tag}{l:List (Nat×Nat)}{g n cap:Nat}(h:Row w o t e 2 (Ah (some ⟨g,0,none⟩) n cap) n (qk l))(i:Nat)(x:Nat×Nat)(hx:l[i]?=some x) :
  w.cell? ⟨g,2*i,none⟩=some (nv x.1)/\w.cell? ⟨g,2*i+1,none⟩=some (nv x.2):=by
 obtain⟨h1,h2⟩:=yu l i x hx;have e1:=h.own.cells (g:=g) rfl _ _ h1;have e2:=h.own.cells (g:=g) rfl _ _ h2;simp only[Addr.add_lit,Nat.zero_add]at e1 e2;exact⟨e1,e2⟩
def XH (h:Aq w o y S)(hi:i<S.Au.length)(hn:S.Av=-1\/S.Av=(i:Int))(hv:S.version<=(S.t i).start)(hq:S.queue=[]\/∃ z l,S.queue=z::l/\(S.t i).seen<=z.2)
  {b1:Nat}(j1:Al w b1 #[ptr y.sb] 24)(t1:o b1=(y.l.id+1,0)) :
  Ab ARt 122 #[ptr (y.xb i),ptr b1] w fun e w'=>e=O (Aj #[I Z 0,I Z 0])/\Bl y { S with Av:=(i:Int) } o w w':=by
 have hfin:=Qa (fun (W:Aa)(hb:Ae w.1.size w W)=>h.hold i hb)
 obtain⟨vt,jx,_⟩:=(h.Au i _ (An.AV hi)).AM;unfold zw at jx;obtain⟨vq,vl,vm,jb,hrw⟩:=h.AM;have hrq:=hrw.q;unfold qw at jb;have hos:=h.os;have n1:b1≠y.sb:=fun e=>by rw[e,hos]at t1;injection t1 with t1 _;omega
 have nx:y.xb i≠y.sb:=fun e=>by have h1:=(h.Au i _ (An.AV hi)).ob;rw[e,hos]at h1;injection h1 with _ h1;omega
 have hvI:¬((S.t i).start:Int)<(S.version:Int):=by omega
 have c1:=j1.cell;have cx:=jx.cell;obtain⟨pa,cp,rfl⟩:=hrq.AS
 have hq2:((((S.queue.length:Nat):Int)==0)=true)\/∃ g z,pa=some ⟨g,0,none⟩/\g≠y.sb/\(((S.queue.length:Nat):Int)==0)=false/\(0:Int)<((S.queue.length:Nat):Int)/\w.cell? ⟨g,1,none⟩=some (I Z (z:Nat))/\((S.t i).seen:Int)<=(z:Int):=by
  rcases hq with h0|⟨z,l,h0,hz⟩
  ·exact .inl (by rw[h0];rfl)
  ·right
   rw[h0]at hrq ⊢;rcases hrq.B7 with ⟨_,hh⟩|⟨g,cap,e,hn⟩
   ·simp[qk]at hh
   ·injection e with e1 _ e3
    subst e1 e3;obtain⟨_,r1⟩:=hrq.at2 0 z rfl;exact⟨g,z.2,rfl,fun e=>by have:=hrq.CZ;rw[e,hos]at this;injection this with _ this;omega,by rw[Qh];simp;omega,by simp,r1,by omega⟩
 clear h hi hos hv hq hrq hrw t1;generalize S.t i=x at *;generalize S.queue.length=ql at *;rcases hn with hn|hn
 all_goals
  rw[hn]at jb;have c:=jb.cell;have z:=jb.free;have s:=jb.lt;rcases hq2 with hq0|⟨g,zq,rfl,ng,hq0,hqp,cq,hzq⟩
  all_goals
   go_enter func122,ntmps122;go_upto_region 1 with fail;go_quiet (fail);go_upto_region 3 with fail;go_region_with (fail)
   all_goals
    go_upto_region 4 with fail;go_quiet (fail);go_wp2_with fail;go_ret2;obtain⟨hS,hs⟩:=hfin.out _ (qx (qd w) _);exact⟨rfl,o,hS.below (qx (qd _) _),(hs.trans (Stp.of_below (qx (qd _) _))).mono fun _=>mw⟩
end
end
section
open Go.RowKit Hp
def qeq (P:Program)(t ty e:TypeId)(i:TypeInfo)(z:Ac)(ht:P.underlying t=some (.slice e))(hi:P.info? e=some i)(hz:i.zero=some z)(w:Aa)(g k n c:Nat)(cur:Array Ac)(hg:w.heap[g]?=some (.cells cur e (0,0)))(hn:0<n)
  (hfit:k+(Ad z.cells n).size<=cur.size)(h1:∀ v ∈ (Ad z.cells n).toList,v.oneCell'=true) :
  (af #[t] ty #[Ah (some ⟨g,k,none⟩) n c]).run P w=.ok (Aj #[]) (w.setRow g (cur.toList.take k++(Ad z.cells n).toList++cur.toList.drop (k+(Ad z.cells n).size)).toArray):=by
 obtain⟨m,rfl⟩:∃ m,n=m+1:=⟨n-1,by omega⟩
 have hst:=run_storeCells_at P g k e (Ad z.cells (m+1)).toList 0 cur w hg (by simpa using hfit) h1
 simp only[Nat.add_zero,Array.length_toList]at hst;simp[af,run_underlying ht,zeroValue,typeInfo,hi,hz,hst]
def qdq {P:Program}(w:Aa){ops:Array Oper}{op:Oper}{a:Act}{K:Act->Aa->Prop}{Q:Exit->Act->Aa->Prop}{E:Prop}(hgd:op.guard=none)(s x:Operand)(t:TypeId)
  (ho:op.op=.call { callee:=.builtin .append,args:=#[s,x],argTypes:=#[t,t] })(v vs v':Ac)(w':Aa)(hr:(ai #[t,t] op.type #[v,vs]).run P w=.ok v' w')(hs:a.eval s=v)(hx:a.eval x=vs)
  (h:K (a.put op.dst v') w'):if Region.wanted op (yielded ops a.tmps)=true then Oper.wp P op a w K Q else E:=by
 have hw:Region.wanted op (yielded ops a.tmps)=true:=by simp[Region.wanted,hgd]
 rw[if_pos hw];unfold Oper.wp execOp;simp only[ho,resolve,invoke,builtin,Sem.run_bind,Sem.run_pure,Result.andThen_ok,List.map_toArray,List.map_cons,List.map_nil,hs,hx,hr];exact h
def XD {w:Aa}{o:Own}{T:Tag->Prop}{g:Nat}(ht:T (o g))(cs:Array Ac):Stp T o o w (w.setRow g cs):=
 ⟨by simp,by simp,by simp,by simp,fun _ _=>rfl,fun b _ h=>setRow_other _ _ _ _ fun e=>h (by rw[e];exact ht)⟩
def UE:Ad (Value.agg #[I Z 0,I Z 0]).cells 1=#[I Z 0,I Z 0]:=by
 have h:∀ z:Array Ac,z=#[I Z 0,I Z 0]->Ad z 1=#[I Z 0,I Z 0]:=fun z hz=>by
  subst hz;apply Array.ext
  ·simp[Ad]
  ·intro i h1 h2
   obtain rfl|rfl:i=0\/i=1:=by simp at h2;omega
   ·simp[Ad]
   ·simp[Ad]
 exact h _ rfl
def M6 {w:Aa}{o:Own}{t:Tag}{v:Ac}{z:Nat×Nat}{l:List (Nat×Nat)}(hr:Row w o t 117 2 v (l.length+1) (qk (z::l)))(hl:l.length<=1099511627776) :
  Ab ARt 123 #[v,I Z 0,I Z 1] w fun e w'=>∃ v',e=O v'/\Row w' o t 117 2 v' l.length (qk l)/\Stp (fun u=>u=t) o o w w':=by
 obtain⟨iU,hi,hsI,bZ,bT⟩:=mm;have hu64:=underlying99;rcases hr.own.2 with ⟨_,h0⟩|⟨g,cap,cur,rfl,_,hg,hnc,hcm,hcs,htk⟩
 ·omega
 have hlen:(qk l).length=l.length*2:=by
  have:∀ m:List (Nat×Nat),(qk m).length=m.length*2:=fun m=>by induction m with
   | nil=>rfl
   | cons a m ih=>simp[qk,ih];omega
  exact this l
 have hT:=hr.tag g rfl;have hgl:g<w.1.size:=(Qf.1 hg).1;have mM:∀ j u,(qk l)[j]?=some u->w.cell? ((⟨g,2,none⟩:Addr).add j)=some u:=fun j u hu=>by
  have h1:=hr.own.cells (g:=g) rfl (j+2) u (by simpa [qk] using hu)
  have e1:((⟨g,2,none⟩:Addr).add j)=((⟨g,0,none⟩:Addr).add (j+2)):=by
   unfold Addr.add;split<;>split<;>simp_all<;>omega
  rw[e1];exact h1
 have hq:∃ q,(if cap=1 then (some ⟨g,0,none⟩:Option Addr) else some ⟨g,2,none⟩)=some ⟨g,q,none⟩/\∀ j u,(qk l)[j]?=some u->w.cell? ((⟨g,q,none⟩:Addr).add j)=some u:=by
  by_cases e:cap=1
  ·have hl0:l=[]:=Ai (by omega)
   subst hl0;exact⟨0,by rw[if_pos e],fun j u hu=>by simp[qk]at hu⟩
  ·exact⟨2,by rw[if_neg e],mM⟩
 obtain⟨q,hq,mO⟩:=hq;have hA:=run_append_room (P:=ARt) w.drew 99 99 117 iU hu64 hi g 0 cap cur hg ⟨g,q,none⟩ l.length (cap-1) (qk l) (by rw[hlen,hsI]) mO (ug l) (by omega) (by rw[hlen,hcs];omega)
 simp only[Nat.zero_mul,Nat.zero_add,List.take_zero,List.nil_append]at hA;obtain⟨c1,hc1⟩:=Ja0 ((qk l++cur.toList.drop (qk l).length).toArray);rw[<-hc1]at hA;have hs1:c1.size=cap*2:=by rw[hc1];simp;omega
 have hg1:(w.drew.setRow g c1).heap[g]?=some (.cells c1 117 (0,0)):=setRow_heap _ _ _ _ _ _ hg;have hC0:=qeq ARt 99 0 117 iU _ hu64 hi bT (w.drew.setRow g c1) g (l.length*2) 1 (cap-l.length) c1 hg1 (by omega) (by rw[UE];show _+2<=_;omega) (by rw[UE];simp[Value.oneCell'])
 simp only[UE]at hC0;obtain⟨c2,hc2⟩:=Ja0 ((c1.toList.take (l.length*2)++[Value.int .i64 0,I Z 0]++c1.toList.drop (l.length*2+2)).toArray);have hC:(af #[99] 0 #[Ah (some ⟨g,l.length*2,none⟩) 1 (cap-l.length)]).run ARt (w.drew.setRow g c1)=.ok (Aj #[]) ((w.drew.setRow g c1).setRow g c2):=by rw[hc2];exact hC0
 clear hC0;have hs2:c2.size=cap*2:=by rw[hc2];simp;omega
 have hg2:((w.drew.setRow g c1).setRow g c2).heap[g]?=some (.cells c2 117 (0,0)):=setRow_heap _ _ _ _ _ _ hg1;have Agp:c2.toList.take (l.length*2)=qk l:=by
  rw[hc2,hc1];rw[List.append_assoc,aa (by simp;omega),List.take_take,Nat.min_self,aa (by omega),<-hlen,ag]
 have hfin:=Qa (show Row ((w.drew.setRow g c1).setRow g c2) o t 117 2 (Ah (some ⟨g,0,none⟩) l.length cap) l.length (qk l)/\Stp (fun u=>u=t) o o w ((w.drew.setRow g c1).setRow g c2) from
  ⟨⟨⟨hlen,.inr ⟨g,cap,c2,rfl,Nat.zero_le _,hg2,by omega,hcm,hs2,Agp⟩⟩,fun k hk=>by simp[Value.ownBlock]at hk;rw[<-hk];exact hT⟩,
   ((Stp.of_below (qf (qd w))).trans (XD hT _)).trans (XD hT _)⟩)
 have i0:(0:Int)<=(l.length:Int)+1:=by omega
 have i1:(1:Int)<=(l.length:Int)+1:=by omega
 have i2:(l.length:Int)+1<=(cap:Int):=by omega
 have i3:((l.length:Int)+1).toNat=l.length+1:=by omega
 have i4:(1:Int)<=(cap:Int):=by omega
 have i5:¬cap=l.length:=by omega
 have i6:(l.length:Int)<=(l.length:Int)+1:=by omega
 clear hr hl hg hnc hcm hcs htk hlen hT hgl mM mO hc1 hs1 hg1 hc2 hs2 hg2 Agp;go_enter func123,ntmps123;go_upto_region 5 with fail;go_region_law (refine qdq _ (by rfl) _ _ _ (by rfl) _ _ _ _ hA (by rfl) (by rfl) ?_)
 all_goals
  go_wp2_with fail;go_ret;exact⟨_,rfl,hfin.out⟩
