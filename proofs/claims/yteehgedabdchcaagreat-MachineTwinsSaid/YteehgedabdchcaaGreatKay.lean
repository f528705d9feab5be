import Derived.Test.YteehgedabdchcaaGreatKaj
import Derived.Test.YteehgedabdchcaaGreatKaw
set_option linter.all false
set_option maxRecDepth 1000000
set_option maxHeartbeats 0
open Go renaming World->Aa,Calls->Ab,Value->Ac
open Go.RowKit renaming Below->Ae
open Go.Value renaming int->I,slice->Ai,agg->Al
open Go.IntKind renaming i64->Z
open Go.Ending renaming returned->O
open List renaming take_of_length_le->Ad,take_length->Aj,map_cons->af,map_nil->ag
open Nat renaming zero_le->aa
open Go.Proofs.Tryz
open Go.Obj renaming cells->AIe
namespace Go.Proofs.YteehgedabdchcaaGreat
open Go.RowKit Hp
attribute [local go_sem ↓] Go.wp_at_zero Go.wp_at_succ
def Tf:∃ i,Tryz.prog.info? 73=some i/\i.size=5/\i.bytes=40/\i.zero=some (Al #[I Z 0,I Z 0,I Z 0,I Z 0,I Z 0]):=info_parts (by kernel_rfl)
def tq:∃ i,Tryz.prog.info? 71=some i/\i.size=1/\i.bytes=24/\i.zero=some (Ai none 0 0):=info_parts (by kernel_rfl)
def fv:∃ i,Tryz.prog.info? 67=some i/\i.size=1/\i.bytes=24/\i.zero=some (Ai none 0 0):=info_parts (by kernel_rfl)
def SY (raw:List (List (List Pg.D)))(w:Aa)(e:Ending)(w':Aa):Prop:=
 ∃ (v:Ac)(o:Own),e=O v/\FT (1,0) w' o v (xu raw)/\Wk w w' o
def GD (W:Aa)(o:Own)(v:Ac)(l:List Pg.D)(i:Nat):Prop:=Row W o (4,0) 73 5 v i (jr ((l.take i).map fit))
def Vh (l:List Pg.D)(d:Pg.D):jr (l++[d])=jr l++(jf d).toList:=by simp[jr]
def GD.fd {W:Aa}{o o':Own}{v:Ac}{l:List Pg.D}{i:Nat}(h:GD W o v l i)(h6:i<=6)(hl:i<=l.length)(hs:¬(i<6/\i<l.length))(he:∀ k,o k=(4,0)->o' k=(1,0)):FD W o' v (fits l):=by
 have e:l.take i=l.take 6:=by
  by_cases h:i=6
  ·rw[h]
  ·rw[Ad (by omega),Ad (by omega)]
 unfold GD at h;rw[e]at h;have hn:(fits l).length=i:=by unfold fits;simp;omega
 refine⟨by omega,?_⟩
 rw[hn];exact h.BH o' _ he
def xj {a:Option Addr}{n c:Nat}:∀ u ∈ [Value.slice a n c],u.oneCell'=true:=by intro u hu;simp at hu;subst hu;rfl
def sq {k a b i n:Int}:∀ u ∈ [Value.int .i64 k,I Z a,I Z b,I Z i,I Z n],u.oneCell'=true:=by
 intro u hu;simp at hu;rcases hu with rfl|rfl|rfl|rfl|rfl<;>rfl
def YK (v:Ac) (raw:List (List (List Pg.D))) (w:Aa) (h:BC w v raw) (hI:TI raw) :
  Ab Tryz.prog 28 #[v] w (SY raw w):=by
 obtain⟨a,c,rfl,hlen,hop⟩:=h.opened;unfold maxLen at hlen;have HOp:=Qa hop;have HI:=Qa hI;have HE:QO ((raw.isEmpty=true->xu raw=[[]])/\(raw.isEmpty=false->xu raw=Gi raw)/\(raw.length=0->raw.isEmpty=true)/\(0<raw.length->raw.isEmpty=false)):=Qa (by
  unfold xu;cases raw<;>simp)
 obtain⟨iD,hi5,hs5,hy5,hz5⟩:=Tf;obtain⟨iS,hi1,hs1,hy1,hz1⟩:=tq;obtain⟨iB,hi2,hs2,hy2,hz2⟩:=fv;have xU:=underlying71;have tY:=underlying67;have tX:=underlying47;clear h hop hI;go_in;go_wp2_with fail;go_loopw [3,4,5,6,7,8] (fun vo it _ _ _ _ wr=>∃ (t:Nat) (o:Own),it=I Z t/\t<=4/\t<=raw.length/\FT (2,0) wr o vo ((raw.take t).map nj)/\Wk w wr o) (fun _ it _ _ _ _ _=>4-(intOf it).toNat)
 case atStart=>exact⟨0,fun _=>(0,0),rfl,by omega,by omega,FT.nil _ _ _,qc w,fun _ _=>rfl⟩
 case round =>
  obtain⟨t,o,rfl,ht4,htl,hF,hK⟩:=hrel;obtain⟨wo,rfl⟩:=Ja0 wr;obtain⟨sD,vs0,hv0,dG,fP⟩:=id hF;have hn0:((raw.take t).map nj).length=t:=by simp;omega
  rw[hn0]at dG hv0;obtain⟨qC,iy,rfl⟩:=dG.A5;have hstop:(t<4/\t<raw.length)\/¬(t<4/\t<raw.length):=by omega
  rcases hstop with ⟨h4,hll⟩|hstop
  ·have tI:(t:Int)<4:=by omega
   have tL:(t:Int)<(raw.length:Int):=by omega
   obtain⟨ls,hls⟩:∃ ls,raw[t]?=some ls:=⟨raw[t],Qb hll⟩;obtain⟨b1,nN,u1,rfl,q1,hB1⟩:=HOp.o t ls hls;obtain⟨a1,c1,rfl,hl1,pK⟩:=hB1.opened;unfold maxLen at hl1;have wB:=Qa pK;have rF:=Qa q1;have qY:=Qa hls;have r1:=(hK.b.cell (p:=⟨b1,nN+t,none⟩) (kl q1)).trans q1;have HV0:=Qa hv0;clear hB1 pK q1 hls dG fP hv0 hn0;go_wp2_with fail;clear r1;go_loopw [5,6,7,8] (fun bo bt _ _ wr=>∃ (b:Nat) (o:Own),bt=I Z b/\b<=3/\b<=ls.length/\FT (2,0) wr o (.slice qC t iy) ((raw.take t).map nj)/\FB (3,0) wr o bo (yp ls b)/\Wk w wr o) (fun _ bt _ _ _=>3-(intOf bt).toNat)
   case atStart=>exact⟨0,o,rfl,by omega,by omega,hF,FB.nil _ _ _,hK⟩
   case round =>
    clear hF hK sD;obtain⟨b,o,rfl,hb3,hbl,hF,hG,hK⟩:=hrel;obtain⟨wo,rfl⟩:=Ja0 wr;obtain⟨hG0,vs1,hv1,dI,fQ⟩:=id hG;obtain⟨fI,fC,rfl⟩:=dI.A5;have r1:=(hK.b.cell (p:=⟨b1,nN+t,none⟩) (kl rF.o)).trans rF.o;have hstop:(b<3/\b<ls.length)\/¬(b<3/\b<ls.length):=by omega
    rcases hstop with ⟨h3,hlb⟩|hstop
    ·have bI:(b:Int)<3:=by omega
     have bL:(b:Int)<(ls.length:Int):=by omega
     obtain⟨l,hl⟩:∃ l,ls[b]?=some l:=⟨ls[b],Qb hlb⟩;obtain⟨b2,dW,u2,rfl,q2,hB2⟩:=wB.o b l hl;obtain⟨a2,c2,rfl,hl2,pM⟩:=hB2.opened;unfold maxLen at hl2;have wC:=Qa pM;have kX:=Qa q2;have HL:=Qa hl;have HDI:QO (∀ d ∈ l,DI d):=Qa (fun d hd=>HI.o ls (Qe qY.o) l (Qe hl) d hd);have r2:=(hK.b.cell (p:=⟨b2,dW+b,none⟩) (kl q2)).trans q2;have vT:∀ i,i<=6->i<=l.length->¬(i<6/\i<l.length)->(i=0->yp ls (b+1)=yp ls b)/\(0<i->yp ls (b+1)=yp ls b++[fits l]):=fun i h1 h2 h3=>by
      rw[qmg hl];have e:(fits l).length=i:=by unfold fits;simp;omega
      refine⟨fun h=>?_,fun h=>?_⟩
      ·rw[List.eq_nil_of_length_eq_zero (e.trans h)];simp
      ·have:(fits l).isEmpty=false:=by cases hf:fits l with
        | nil=>rw[hf]at e;simp at e;omega
        | cons=>rfl
       rw[this];simp
     have qX:=Qa (VR ls b);clear hB2 pM q2 hl dI fQ hv1;generalize hN1:(yp ls b).length=n1 at *;have HN1:=Qa hN1;clear hN1;go_wp2_with fail;clear r1 r2;go_loopw [7,8] (fun lo it wr=>∃ (i:Nat) (o:Own),it=I Z i/\i<=6/\i<=l.length/\FT (2,0) wr o (.slice qC t iy) ((raw.take t).map nj)/\FB (3,0) wr o (.slice fI n1 fC) (yp ls b)/\GD wr o lo l i/\Wk w wr o) (fun _ it _=>6-(intOf it).toNat)
     case atStart=>exact⟨0,o,rfl,by omega,by omega,hF,hG,Row.nil _ _ _ _ _,hK⟩
     case round =>
      clear hF hG hK hG0;obtain⟨i,o,rfl,hi6,hil,hF,hG,hR,hK⟩:=hrel;obtain⟨wo,rfl⟩:=Ja0 wr;obtain⟨il,cp2,rfl⟩:=Row.A5 hR;have r1:=(hK.b.cell (p:=⟨b1,nN+t,none⟩) (kl rF.o)).trans rF.o;have r2:=(hK.b.cell (p:=⟨b2,dW+b,none⟩) (kl kX.o)).trans kX.o;have hstop:(i<6/\i<l.length)\/¬(i<6/\i<l.length):=by omega
      rcases hstop with ⟨h6,hli⟩|hstop
      ·have iI:(i:Int)<6:=by omega
       have iL:(i:Int)<(l.length:Int):=by omega
       obtain⟨d,hd⟩:∃ d,l[i]?=some d:=⟨l[i],Qb hli⟩;obtain⟨b3,kR,rfl,hc5⟩:=wC.o i d hd;obtain⟨p0,p1,p2,p3,p4⟩:=hc5.below hK.b;obtain⟨z0,z1,z2,z3,z4⟩:=HDI.out d (Qe hd);obtain⟨fk,fa,fb,fi,fn,hfit⟩:∃ fk fa fb fi fn,fit d=⟨fk,fa,fb,fi,fn⟩:=⟨_,_,_,_,_,rfl⟩;have Ahr:=Qa (show Ab Tryz.prog 85 #[Al #[d.k,d.a,d.b,d.i,d.n]] wo fun e w'=>e=O (Al #[fk,fa,fb,fi,fn])/\Ae wo.1.size wo w' from by
        refine (LG d z0 z1 z2 z3 z4 wo).mono ?_;rintro e w' ⟨rfl,hb⟩;rw[hfit];exact⟨rfl,hb⟩)
       have iF:=vx _ _ _ hd;have HFin:=Qa (fun (w4:Aa) (o4:Own) (v4:Ac) (hown:Row w4 o4 (4,0) 73 5 v4 (i+1) (jr ((l.take i).map fit)++[I Z fk,I Z fa,I Z fb,I Z fi,I Z fn]))=>show GD w4 o4 v4 l (i+1) from by
        unfold GD;rw[iF,Qw,af,ag,hfit,Vh];exact hown)
       have dB:i+1<=maxLen:=by simp only[maxLen];omega
       have hmb:(i+1)*40<=140737488355328:=by omega
       clear hd hc5 z0 z1 z2 z3 z4 hfit iF;go_wp2_with (first
        | (go_at_call 85;refine Ahr.o.mono ?_;rintro e w3 ⟨rfl,hb3⟩;have rn:=(Row.below hR hb3).below (qa (qc w3) (AIe #[fk,fa,fb,fi,fn] 73));have jn:=An.new w3 #[fk,fa,fb,fi,fn] 73)
        | (at_builtin;refine qf _ rfl _ _ _ rfl 73 iD _ 5 40 xU hi5 hz5 hs5 hy5 rfl (by decide) o (4,0) _ _ _ rfl rn ⟨w3.1.size,0,none⟩ 1 1 [I Z fk,I Z fa,I Z fb,I Z fi,I Z fn] rfl rfl (yh jn) sq dB hmb ?_;intro v' w4 hown hst;obtain⟨pa',cp',rfl⟩:=hown.A5)
        | fail)
       all_goals
        have k4:=(Stp.of_below (T:=fun t=>t=(4,0)) (o:=o) (qa hb3 (AIe #[fk,fa,fb,fi,fn] 73))).trans hst;have g4:=HFin.o _ _ _ hown;go_roundw
        case rel=>exact⟨i+1,_,by simp,by omega,by omega,hF.Ar k4 (by simp) (by simp),hG.Ar k4 (by simp) (by simp),g4,hK.Ar k4 (by simp)⟩
        case measure=>simp[intOf];omega
      ·-- the Abr of a block are done
       have hEx:=(vT i hi6 hil hstop);by_cases hi0:i=0
       ·subst hi0
        have hE2:=Qa (hEx.1 rfl);have HF:=Qa hF;have HG:=Qa hG;have HK:=Qa hK;clear hF hG hR hK hEx;have hdone:¬((0:Int)<(l.length:Int)):=by omega
        clear hstop;go_wp2_with fail;go_roundw
        case rel=>exact⟨b+1,o,by simp,by omega,by omega,HF.o,by rw[hE2.o];exact HG.o,HK.o⟩
        case measure=>simp[intOf];omega
       ·have Adf:0<i:=by omega
        have iI:(0:Int)<(i:Int):=by omega
        have hE2:=Qa (hEx.2 Adf);have hfd:=hR.fd hi6 hil hstop (o':=BH o (4,0) (1,0)) (fun k hk=>PX hk);have hF2:=Qa (hF.BH (o':=BH o (4,0) (1,0)) (fun k hk=>by rw[we (by rw[hk];simp)];exact hk) (2,0) (fun k hk=>by rw[we (by rw[hk];simp)];exact hk))
        have hG2:=hG.BH (o':=BH o (4,0) (1,0)) (fun k hk=>by rw[we (by rw[hk];simp)];exact hk) (3,0) (fun k hk=>by rw[we (by rw[hk];simp)];exact hk)
        have hK2:=Qa (hK.BH (a:=(4,0)) (b:=(1,0)) (by simp))
        generalize BH o (4,0) (1,0)=o2 at *;obtain⟨hG0,vs1,hv1,dI,fQ⟩:=id hG2;rw[HN1.o]at dI hv1;have rn:=dI.below (qa (qc wo) (AIe #[.slice il i cp2] 71));have jn:=An.new wo #[.slice il i cp2] 71;have dB:n1+1<=maxLen:=by have:=qX.o;simp only[maxLen];omega
        have hmb:(n1+1)*24<=140737488355328:=by have:=qX.o;omega
        have HFD:=Qa hfd;have HG2:=Qa hG2;have HVS:=Qa fQ;have HV1:=Qa hv1;have hsz:n1<3:=by have:=qX.o;omega
        have HFin:=Qa (fun (w4:Aa) (o4:Own) (v4:Ac) (hown:Row w4 o4 (3,0) 71 1 v4 (n1+1) (vs1++[.slice il i cp2])) (hst:Stp (fun t=>t=(3,0)) o2 o4 (wo.alloc (AIe #[.slice il i cp2] 71)) w4) =>
         show FT (2,0) w4 o4 (.slice qC t iy) ((raw.take t).map nj)/\FB (3,0) w4 o4 v4 (yp ls (b+1))/\Wk w w4 o4 from by
          have k4:=(Stp.of_below (T:=fun t=>t=(3,0)) (o:=o2) (qa (qc wo) (AIe #[.slice il i cp2] 71))).trans hst;refine⟨hF2.o.Ar k4 (by simp) (by simp),?_,hK2.o.Ar k4 (by simp)⟩
          rw[hE2.o];exact FB.snoc (by rw[HN1.o];exact hsz) k4 (by simp) (by rw[HN1.o];exact HV1.o) HFD.o HVS.o (by rw[HN1.o];exact hown))
        clear hF hG hR hK hEx hfd hG2 fQ hv1 hG0 dI;rcases (show (i<l.length/\i=6)\/l.length=i by omega) with ⟨hlt,rfl⟩|hle
        ·have iL:(6:Int)<(l.length:Int):=by omega
         clear hstop;go_wp2_with (first
          | (at_builtin;refine qf _ rfl _ _ _ rfl 71 iS _ 1 24 tY hi1 hz1 hs1 hy1 rfl (by decide) o2 (3,0) _ _ _ rfl rn ⟨wo.1.size,0,none⟩ 1 1 [.slice il 6 cp2] rfl rfl (qv jn) xj dB hmb ?_;intro v' w4 hown hst;obtain⟨pa',cp',rfl⟩:=hown.A5)
          | fail)
         obtain⟨f1,f2,f3⟩:=HFin.o _ _ _ hown hst;go_roundw
         case rel=>exact⟨b+1,_,by simp,by omega,by omega,f1,f2,f3⟩
         case measure=>simp[intOf];omega
        ·have iL:¬((i:Int)<(l.length:Int)):=by omega
         have yL:=Qa hle;clear hstop hle;go_wp2_with (first
          | (at_builtin;refine qf _ rfl _ _ _ rfl 71 iS _ 1 24 tY hi1 hz1 hs1 hy1 rfl (by decide) o2 (3,0) _ _ _ rfl rn ⟨wo.1.size,0,none⟩ 1 1 [.slice il i cp2] rfl rfl (qv jn) xj dB hmb ?_;intro v' w4 hown hst;obtain⟨pa',cp',rfl⟩:=hown.A5)
          | fail)
         obtain⟨f1,f2,f3⟩:=HFin.o _ _ _ hown hst;go_roundw
         case rel=>exact⟨b+1,_,by simp,by omega,by omega,f1,f2,f3⟩
         case measure=>simp[intOf];omega
    ·-- the blocks of a B9 are done
     have qN:=hG.BH (o':=BH o (3,0) (1,0)) (fun k hk=>by rw[we (by rw[hk];simp)];exact hk) (1,0) (fun k hk=>PX hk)
     have hF2:=hF.BH (o':=BH o (3,0) (1,0)) (fun k hk=>by rw[we (by rw[hk];simp)];exact hk) (2,0) (fun k hk=>by rw[we (by rw[hk];simp)];exact hk)
     have hK2:=Qa (hK.BH (a:=(3,0)) (b:=(1,0)) (by simp))
     generalize BH o (3,0) (1,0)=o2 at *;generalize hN1:(yp ls b).length=n1 at *;have hB:yp ls b=nj ls:=by
      unfold yp nj;have e:ls.take b=ls.take 3:=by
       by_cases h:b=3
       ·rw[h]
       ·rw[Ad (by omega),Ad (by omega)]
      rw[e]
     rw[hB]at qN;have hE:(raw.take (t+1)).map nj=(raw.take t).map nj++[nj ls]:=by
      rw[vx _ _ _ qY.o,Qw];rfl
     obtain⟨sD,vs0,hv0,dG,fP⟩:=id hF2;have hn0:((raw.take t).map nj).length=t:=by simp;omega
     rw[hn0]at dG hv0;have rn:=dG.below (qa (qc wo) (AIe #[.slice fI n1 fC] 67));have jn:=An.new wo #[.slice fI n1 fC] 67;have dB:t+1<=maxLen:=by simp only[maxLen];omega
     have hmb:(t+1)*24<=140737488355328:=by omega
     have HFin:=Qa (fun (w4:Aa) (o4:Own) (v4:Ac) (hown:Row w4 o4 (2,0) 67 1 v4 (t+1) (vs0++[.slice fI n1 fC])) (hst:Stp (fun t=>t=(2,0)) o2 o4 (wo.alloc (AIe #[.slice fI n1 fC] 67)) w4) =>
      show FT (2,0) w4 o4 v4 ((raw.take (t+1)).map nj)/\Wk w w4 o4 from by
       have k4:=(Stp.of_below (T:=fun t=>t=(2,0)) (o:=o2) (qa (qc wo) (AIe #[.slice fI n1 fC] 67))).trans hst;refine⟨?_,hK2.o.Ar k4 (by simp)⟩
       rw[hE];exact FT.snoc (by rw[hn0];omega) k4 (by simp) (by rw[hn0];exact hv0) qN fP (by rw[hn0];exact hown))
     clear hF hG hK hG0 dI fQ hv1 hN1 qN hF2 hB hE sD hv0 dG fP hn0;rcases (show (b<ls.length/\b=3)\/ls.length=b by omega) with ⟨hlt,rfl⟩|hle
     ·have iL:(3:Int)<(ls.length:Int):=by omega
      clear hstop;go_wp2_with (first
       | (at_builtin;refine qf _ rfl _ _ _ rfl 67 iB _ 1 24 tX hi2 hz2 hs2 hy2 rfl (by decide) o2 (2,0) _ _ _ rfl rn ⟨wo.1.size,0,none⟩ 1 1 [.slice fI n1 fC] rfl rfl (qv jn) xj dB hmb ?_;intro v' w4 hown hst;obtain⟨pa',cp',rfl⟩:=hown.A5)
       | fail)
      obtain⟨f1,f2⟩:=HFin.o _ _ _ hown hst;go_roundw
      case rel=>exact⟨t+1,_,by simp,by omega,by omega,f1,f2⟩
      case measure=>simp[intOf];omega
     ·have iL:¬((b:Int)<(ls.length:Int)):=by omega
      have yL:=Qa hle;clear hstop hle;go_wp2_with (first
       | (at_builtin;refine qf _ rfl _ _ _ rfl 67 iB _ 1 24 tX hi2 hz2 hs2 hy2 rfl (by decide) o2 (2,0) _ _ _ rfl rn ⟨wo.1.size,0,none⟩ 1 1 [.slice fI n1 fC] rfl rfl (qv jn) xj dB hmb ?_;intro v' w4 hown hst;obtain⟨pa',cp',rfl⟩:=hown.A5)
       | fail)
      obtain⟨f1,f2⟩:=HFin.o _ _ _ hown hst;go_roundw
      case rel=>exact⟨t+1,_,by simp,by omega,by omega,f1,f2⟩
      case measure=>simp[intOf];omega
  ·-- all threads are done
   have hT:(raw.take t).map nj=Gi raw:=by
    unfold Gi;have e:raw.take t=raw.take 4:=by
     by_cases h:t=4
     ·rw[h]
     ·rw[Ad (by omega),Ad (by omega)]
    rw[e]
   have hF2:=hF.BH (o':=BH o (2,0) (1,0)) (fun k hk=>by rw[we (by rw[hk];simp)];exact hk) (1,0) (fun k hk=>PX hk)
   have hK2:=hK.BH (a:=(2,0)) (b:=(1,0)) (by simp)
   rw[hT]at hF2;have sF:=Qa (show 0<t->SY raw w (O (.slice qC t iy)) wo from fun h0=>⟨_,_,rfl,by rw[HE.out.2.1 (HE.out.2.2.2 (by omega))];exact hF2,hK2⟩)
   have kZ:=Qa (show t=0->SY raw w (O (Ai (some ⟨wo.1.size,0,none⟩) 1 1)) (wo.alloc (AIe #[Ai none 0 0] 67)) from fun h0=>by
    refine⟨_,ext (BH o (2,0) (1,0)) wo.1.size (1,0),rfl,?_,?_⟩
    ·rw[HE.out.1 (HE.out.2.2.1 (by omega))]
     refine⟨by simp,[Ai none 0 0],rfl,⟨⟨rfl,.inr ⟨wo.1.size,1,#[Ai none 0 0],rfl,aa _,An.new _ _ _,Qk _,by simp[maxLen],rfl,rfl⟩⟩,fun k hk=>?_⟩,fun j bs hj=>?_⟩
     ·have:wo.1.size=k:=by simpa [Value.ownBlock] using hk
      subst this;exact qp (Qk _)
     ·have:j=0:=by
       have:=(Qc.1 hj).1;simpa using this
      subst this;simp at hj;subst hj;exact⟨_,rfl,FB.nil _ _ _⟩
    ·refine⟨qa hK2.b _,fun b hb=>?_⟩
     rw[qj (Qn hb hK2.b.size)];exact hK2.z b hb)
   clear hF hK hF2 hK2 hT sD hv0 dG fP hn0;by_cases h0:t=0
   ·subst h0
    have hl0:¬((0:Int)<(raw.length:Int)):=by omega
    have HF0:=Qa (kZ.o rfl);clear sF kZ hstop;go_wp2_with fail;go_ret;exact HF0.o
   ·have tP:(0:Int)<(t:Int):=by omega
    have tN:(((t:Int))==0)=false:=by rw[Qh];omega
    have HF1:=Qa (sF.o (by omega))
    rcases (show (t<raw.length/\t=4)\/raw.length=t by omega) with ⟨hlt,rfl⟩|hle
    ·have iL:(4:Int)<(raw.length:Int):=by omega
     clear hstop sF kZ;go_wp2_with fail;go_ret;exact HF1.o
    ·have iL:¬((t:Int)<(raw.length:Int)):=by omega
     have yL:=Qa hle;clear hstop hle sF kZ;go_wp2_with fail;go_ret;exact HF1.o
def Fq (d:Pg.D):Pg.D:=if d.k=2 then⟨1,d.a,d.b,d.i,d.n⟩ else if d.k=9\/d.k=10 then⟨13,d.a,0,0,0⟩ else d
def GC (bs:List (List Pg.D)):List (List Pg.D):=bs.map fun l=>l.map Fq
def JY (A1:List (List (List Pg.D))):List (List (List Pg.D)):=A1.map GC
def GP (W:Aa)(o:Own)(v:Ac)(l:List Pg.D)(i:Nat):Prop:=Row W o (4,0) 73 5 v i (jr ((l.take i).map Fq))
def four (k:Int):k=2\/k=9\/k=10\/(k≠2/\k≠9/\k≠10):=by
 by_cases h1:k=2
 ·exact .inl h1
 ·by_cases h2:k=9
  ·exact .inr (.inl h2)
  ·by_cases h3:k=10
   ·exact .inr (.inr (.inl h3))
   ·exact .inr (.inr (.inr ⟨h1,h2,h3⟩))
def qj5 (v:Ac) (raw:List (List (List Pg.D))) (w:Aa) (h:BC w v raw) (h4:raw.length<=4) (h3:∀ bs ∈ raw,bs.length<=3/\∀ l ∈ bs,l.length<=6) :
  Ab Tryz.prog 27 #[v] w fun e w'=>∃ v' o,e=O v'/\FT (1,0) w' o v' (JY raw)/\Wk w w' o:=by
 obtain⟨a,c,rfl,hlen,hop⟩:=h.opened;unfold maxLen at hlen;have HOp:=Qa hop;have H3:=Qa h3;obtain⟨iD,hi5,hs5,hy5,hz5⟩:=Tf;obtain⟨iS,hi1,hs1,hy1,hz1⟩:=tq;obtain⟨iB,hi2,hs2,hy2,hz2⟩:=fv;have xU:=underlying71;have tY:=underlying67;have tX:=underlying47;clear h hop h3;go_in;go_wp2_with fail;go_loopw [3,4,5,6,7,8,9] (fun vo it _ _ _ _ _ wr=>∃ (t:Nat) (o:Own),it=I Z t/\t<=raw.length/\FT (2,0) wr o vo ((raw.take t).map GC)/\Wk w wr o) (fun _ it _ _ _ _ _ _=>raw.length-(intOf it).toNat)
 case atStart=>exact⟨0,fun _=>(0,0),rfl,aa _,FT.nil _ _ _,qc w,fun _ _=>rfl⟩
 case round =>
  obtain⟨t,o,rfl,htl,hF,hK⟩:=hrel;obtain⟨wo,rfl⟩:=Ja0 wr;obtain⟨sD,vs0,hv0,dG,fP⟩:=id hF;have hn0:((raw.take t).map GC).length=t:=by simp;omega
  rw[hn0]at dG hv0;obtain⟨qC,iy,rfl⟩:=dG.A5;by_cases hll:t<raw.length
  ·have tL:(t:Int)<(raw.length:Int):=by omega
   obtain⟨ls,hls⟩:∃ ls,raw[t]?=some ls:=⟨raw[t],Qb hll⟩;obtain⟨b1,nN,u1,rfl,q1,hB1⟩:=HOp.o t ls hls;obtain⟨a1,c1,rfl,hl1,pK⟩:=hB1.opened;unfold maxLen at hl1;obtain⟨l3,l6⟩:=H3.o ls (Qe hls);have wB:=Qa pK;have rF:=Qa q1;have qY:=Qa hls;have H6:=Qa l6;clear hB1 pK q1 hls dG fP hv0 hn0 l6;go_wp2_with fail;go_loopw [5,6,7,8,9] (fun bo bt _ _ _ wr=>∃ (b:Nat) (o:Own),bt=I Z b/\b<=ls.length/\FT (2,0) wr o (.slice qC t iy) ((raw.take t).map GC)/\FB (3,0) wr o bo ((ls.take b).map fun l=>l.map Fq)/\Wk w wr o) (fun _ bt _ _ _ _=>ls.length-(intOf bt).toNat)
   case atStart=>exact⟨0,o,rfl,aa _,hF,FB.nil _ _ _,hK⟩
   case round =>
    clear hF hK sD;obtain⟨b,o,rfl,hbl,hF,hG,hK⟩:=hrel;obtain⟨wo,rfl⟩:=Ja0 wr;obtain⟨hG0,vs1,hv1,dI,fQ⟩:=id hG;have hn1:((ls.take b).map fun l=>l.map Fq).length=b:=by simp;omega
    rw[hn1]at dI hv1;obtain⟨fI,fC,rfl⟩:=dI.A5;have r1:=(hK.b.cell (p:=⟨b1,nN+t,none⟩) (kl rF.o)).trans rF.o;by_cases hlb:b<ls.length
    ·have bL:(b:Int)<(ls.length:Int):=by omega
     obtain⟨l,hl⟩:∃ l,ls[b]?=some l:=⟨ls[b],Qb hlb⟩;obtain⟨b2,dW,u2,rfl,q2,hB2⟩:=wB.o b l hl;obtain⟨a2,c2,rfl,hl2,pM⟩:=hB2.opened;unfold maxLen at hl2;have l6:=H6.o l (Qe hl);have wC:=Qa pM;have kX:=Qa q2;have HL:=Qa hl;have r2:=(hK.b.cell (p:=⟨b2,dW+b,none⟩) (kl q2)).trans q2;clear hB2 pM q2 hl dI fQ hv1 hn1;go_wp2_with fail;clear r1 r2;go_loopw [7,8,9] (fun lo it _ wr=>∃ (i:Nat) (o:Own),it=I Z i/\i<=l.length/\FT (2,0) wr o (.slice qC t iy) ((raw.take t).map GC)/\FB (3,0) wr o (.slice fI b fC) ((ls.take b).map fun l=>l.map Fq)/\GP wr o lo l i/\Wk w wr o) (fun _ it _ _=>l.length-(intOf it).toNat)
     case atStart=>exact⟨0,o,rfl,aa _,hF,hG,Row.nil _ _ _ _ _,hK⟩
     case round =>
      clear hF hG hK hG0;obtain⟨i,o,rfl,hil,hF,hG,hR,hK⟩:=hrel;obtain⟨wo,rfl⟩:=Ja0 wr;obtain⟨il,cp2,rfl⟩:=Row.A5 hR;have r1:=(hK.b.cell (p:=⟨b1,nN+t,none⟩) (kl rF.o)).trans rF.o;have r2:=(hK.b.cell (p:=⟨b2,dW+b,none⟩) (kl kX.o)).trans kX.o;by_cases hli:i<l.length
      ·have iL:(i:Int)<(l.length:Int):=by omega
       obtain⟨d,hd⟩:∃ d,l[i]?=some d:=⟨l[i],Qb hli⟩;obtain⟨b3,kR,rfl,hc5⟩:=wC.o i d hd;obtain⟨p0,p1,p2,p3,p4⟩:=hc5.below hK.b;have iF:=vx _ _ _ hd;have HFin:=Qa (fun (w4:Aa) (o4:Own) (v4:Ac) (hown:Row w4 o4 (4,0) 73 5 v4 (i+1) (jr ((l.take i).map Fq)++(jf (Fq d)).toList))=>show GP w4 o4 v4 l (i+1) from by
        unfold GP;rw[iF,Qw,af,ag,Vh];exact hown)
       have dB:i+1<=maxLen:=by simp only[maxLen];omega
       have hmb:(i+1)*40<=140737488355328:=by omega
       obtain⟨dk,da,db,di,dn⟩:=d;simp only at p0 p1 p2 p3 p4;clear hd hc5 iF;rcases four dk with rfl|rfl|rfl|⟨n1,n2,n3⟩
       rotate_left 3;have e1:(dk==2)=false:=by rw[Qh];exact n1
       have e2:(dk==9)=false:=by rw[Qh];exact n2
       have e3:(dk==10)=false:=by rw[Qh];exact n3
       have e4:Fq ⟨dk,da,db,di,dn⟩=⟨dk,da,db,di,dn⟩:=by unfold Fq;rw[if_neg n1,if_neg fun h=>h.elim n2 n3]
       rw[e4]at HFin;clear n1 n2 n3 e4
       all_goals
        go_wp2_with (first
         | (at_builtin;refine qf _ rfl _ _ _ rfl 73 iD _ 5 40 xU hi5 hz5 hs5 hy5 rfl (by decide) o (4,0) _ _ _ rfl (Row.below hR (by first|exact qa (qa (qc _) _) _|exact qa (qm (qa (qc _) _) (Qk _) _) _|exact qa (qm (qm (qm (qm (qm (qa (qc _) _) (Qk _) _) (Qk _) _) (Qk _) _) (Qk _) _) (Qk _) _) _)) ⟨wo.1.size+1,0,none⟩ 1 1 _ rfl rfl (yh (An.Ax _ _ _ _ _ (by simp) rfl)) sq dB hmb ?_;intro v' w4 hown hst;obtain⟨pa',cp',rfl⟩:=hown.A5)
         | fail)
        have k4:Stp (fun t=>t=(4,0)) o _ wo w4:=(Stp.of_below (by first|exact qa (qa (qc _) _) _|exact qa (qm (qa (qc _) _) (Qk _) _) _|exact qa (qm (qm (qm (qm (qm (qa (qc _) _) (Qk _) _) (Qk _) _) (Qk _) _) (Qk _) _) (Qk _) _) _)).trans hst
        have g4:=HFin.o _ _ _ hown;go_roundw
        case rel=>exact⟨i+1,_,by simp,by omega,hF.Ar k4 (by simp) (by simp),hG.Ar k4 (by simp) (by simp),g4,hK.Ar k4 (by simp)⟩
        case measure=>simp[intOf];omega
      ·-- the Abr of a block are done
       have iL:¬((i:Int)<(l.length:Int)):=by omega
       obtain rfl:i=l.length:=by omega
       have hR1:Row wo o (4,0) 73 5 (.slice il l.length cp2) l.length (jr (l.map Fq)):=by have h:=hR;unfold GP at h;rwa [Aj]at h
       have hfd:FD wo (BH o (4,0) (1,0)) (.slice il l.length cp2) (l.map Fq):=⟨by rw[Qg];exact l6,by rw[Qg];exact Row.BH hR1 _ _ fun k hk=>PX hk⟩
       have hF2:=Qa (hF.BH (o':=BH o (4,0) (1,0)) (fun k hk=>by rw[we (by rw[hk];simp)];exact hk) (2,0) (fun k hk=>by rw[we (by rw[hk];simp)];exact hk))
       have hG2:=hG.BH (o':=BH o (4,0) (1,0)) (fun k hk=>by rw[we (by rw[hk];simp)];exact hk) (3,0) (fun k hk=>by rw[we (by rw[hk];simp)];exact hk)
       have hK2:=Qa (hK.BH (a:=(4,0)) (b:=(1,0)) (by simp))
       generalize BH o (4,0) (1,0)=o2 at *;obtain⟨hG0,vs1,hv1,dI,fQ⟩:=id hG2;have hn1:((ls.take b).map fun l=>l.map Fq).length=b:=by simp;omega
       rw[hn1]at dI hv1;have rn:=dI.below (qa (qc wo) (AIe #[.slice il l.length cp2] 71));have jn:=An.new wo #[.slice il l.length cp2] 71;have dB:b+1<=maxLen:=by simp only[maxLen];omega
       have hmb:(b+1)*24<=140737488355328:=by omega
       have HFin:=Qa (fun (w4:Aa) (o4:Own) (v4:Ac) (hown:Row w4 o4 (3,0) 71 1 v4 (b+1) (vs1++[.slice il l.length cp2])) (hst:Stp (fun t=>t=(3,0)) o2 o4 (wo.alloc (AIe #[.slice il l.length cp2] 71)) w4) =>
        show FT (2,0) w4 o4 (.slice qC t iy) ((raw.take t).map GC)/\FB (3,0) w4 o4 v4 ((ls.take (b+1)).map fun l=>l.map Fq)/\Wk w w4 o4 from by
         have k4:=(Stp.of_below (T:=fun t=>t=(3,0)) (o:=o2) (qa (qc wo) (AIe #[.slice il l.length cp2] 71))).trans hst;refine⟨hF2.o.Ar k4 (by simp) (by simp),?_,hK2.o.Ar k4 (by simp)⟩
         rw[vx _ _ _ HL.o,Qw];exact FB.snoc (by rw[hn1];omega) k4 (by simp) (by rw[hn1];exact hv1) hfd fQ (by rw[hn1];exact hown))
       clear hF hG hR hR1 hK hfd hG2 fQ hv1 hG0 dI hn1;go_wp2_with (first
        | (at_builtin;refine qf _ rfl _ _ _ rfl 71 iS _ 1 24 tY hi1 hz1 hs1 hy1 rfl (by decide) o2 (3,0) _ _ _ rfl rn ⟨wo.1.size,0,none⟩ 1 1 [.slice il l.length cp2] rfl rfl (qv jn) xj dB hmb ?_;intro v' w4 hown hst;obtain⟨pa',cp',rfl⟩:=hown.A5)
        | fail)
       obtain⟨f1,f2,f3⟩:=HFin.o _ _ _ hown hst;go_roundw
       case rel=>exact⟨b+1,_,by simp,by omega,f1,f2,f3⟩
       case measure=>simp[intOf];omega
    ·-- the blocks of a B9 are done
     have bL:¬((b:Int)<(ls.length:Int)):=by omega
     obtain rfl:b=ls.length:=by omega
     rw[Aj]at hG;have qN:=hG.BH (o':=BH o (3,0) (1,0)) (fun k hk=>by rw[we (by rw[hk];simp)];exact hk) (1,0) (fun k hk=>PX hk)
     have hF2:=hF.BH (o':=BH o (3,0) (1,0)) (fun k hk=>by rw[we (by rw[hk];simp)];exact hk) (2,0) (fun k hk=>by rw[we (by rw[hk];simp)];exact hk)
     have hK2:=Qa (hK.BH (a:=(3,0)) (b:=(1,0)) (by simp))
     generalize BH o (3,0) (1,0)=o2 at *;have hE:(raw.take (t+1)).map GC=(raw.take t).map GC++[GC ls]:=by
      rw[vx _ _ _ qY.o,Qw];rfl
     obtain⟨sD,vs0,hv0,dG,fP⟩:=id hF2;have hn0:((raw.take t).map GC).length=t:=by simp;omega
     rw[hn0]at dG hv0;have rn:=dG.below (qa (qc wo) (AIe #[.slice fI ls.length fC] 67));have jn:=An.new wo #[.slice fI ls.length fC] 67;have dB:t+1<=maxLen:=by simp only[maxLen];omega
     have hmb:(t+1)*24<=140737488355328:=by omega
     have HFin:=Qa (fun (w4:Aa) (o4:Own) (v4:Ac) (hown:Row w4 o4 (2,0) 67 1 v4 (t+1) (vs0++[.slice fI ls.length fC])) (hst:Stp (fun t=>t=(2,0)) o2 o4 (wo.alloc (AIe #[.slice fI ls.length fC] 67)) w4) =>
      show FT (2,0) w4 o4 v4 ((raw.take (t+1)).map GC)/\Wk w w4 o4 from by
       have k4:=(Stp.of_below (T:=fun t=>t=(2,0)) (o:=o2) (qa (qc wo) (AIe #[.slice fI ls.length fC] 67))).trans hst;refine⟨?_,hK2.o.Ar k4 (by simp)⟩
       rw[hE];exact FT.snoc (by rw[hn0];omega) k4 (by simp) (by rw[hn0];exact hv0) qN fP (by rw[hn0];exact hown))
     clear hF hG hK hG0 dI fQ hv1 hn1 qN hF2 hE sD hv0 dG fP hn0;go_wp2_with (first
      | (at_builtin;refine qf _ rfl _ _ _ rfl 67 iB _ 1 24 tX hi2 hz2 hs2 hy2 rfl (by decide) o2 (2,0) _ _ _ rfl rn ⟨wo.1.size,0,none⟩ 1 1 [.slice fI ls.length fC] rfl rfl (qv jn) xj dB hmb ?_;intro v' w4 hown hst;obtain⟨pa',cp',rfl⟩:=hown.A5)
      | fail)
     obtain⟨f1,f2⟩:=HFin.o _ _ _ hown hst;go_roundw
     case rel=>exact⟨t+1,_,by simp,by omega,f1,f2⟩
     case measure=>simp[intOf];omega
  ·-- all threads are done
   have tL:¬((t:Int)<(raw.length:Int)):=by omega
   obtain rfl:t=raw.length:=by omega
   rw[Aj]at hF;have HFin:=Qa (show ∃ v' o',Ending.returned (.slice qC raw.length iy)=O v'/\FT (1,0) wo o' v' (JY raw)/\Wk w wo o' from
    ⟨_,_,rfl,hF.BH (o':=BH o (2,0) (1,0)) (fun k hk=>by rw[we (by rw[hk];simp)];exact hk) (1,0) (fun k hk=>PX hk),hK.BH (a:=(2,0)) (b:=(1,0)) (by simp)⟩)
   clear hF hK sD hv0 dG fP hn0;go_wp2_with fail;go_ret;obtain⟨v1,o1,e1,f1,f2⟩:=HFin.o;injection e1 with e1;subst e1;exact⟨_,rfl,o1,f1,f2⟩
