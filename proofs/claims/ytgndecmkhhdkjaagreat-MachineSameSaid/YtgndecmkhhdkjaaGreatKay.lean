import Derived.Test.YtgndecmkhhdkjaaGreatKaj
import Derived.Test.YtgndecmkhhdkjaaGreatKaw
set_option linter.all false
set_option maxRecDepth 1000000
set_option maxHeartbeats 0
open Go renaming World->Aa,Calls->Ab,Value->Ac
open Go.RowKit renaming Below->Ae
open Go.Value renaming int->I,slice->Ai,agg->Al
open Go.IntKind renaming i64->Z
open Go.Ending renaming returned->O
open List renaming take_of_length_le->Ad
open Go.Proofs.Tryz
namespace Go.Proofs.YtgndecmkhhdkjaaGreat
open Go.RowKit Hp
attribute [local go_sem ↓] Go.wp_at_zero Go.wp_at_succ
def WV:∃ i,Tryz.prog.info? 44=some i/\i.size=5/\i.bytes=40/\i.zero=some (Al #[(),(),(),(),()]):=info_parts (by kernel_rfl)
def WR:∃ i,Tryz.prog.info? 45=some i/\i.size=1/\i.bytes=24/\i.zero=some (Ai none 0 0):=info_parts (by kernel_rfl)
def VZ:∃ i,Tryz.prog.info? 46=some i/\i.size=1/\i.bytes=24/\i.zero=some (Ai none 0 0):=info_parts (by kernel_rfl)
def TW (raw:List (List (List Pg.D)))(w:Aa)(e:Ending)(w':Aa):Prop:=
 ∃ (v:Ac)(o:Own),e=O v/\FT (1,0) w' o v (pm raw)/\Wk w w' o
def GD (W:Aa)(o:Own)(v:Ac)(l:List Pg.D)(i:Nat):Prop:=Row W o (4,0) 44 5 v i (kl ((l.take i).map fit))
def qmm (l:List Pg.D)(d:Pg.D):kl (l++[d])=kl l++(ju d).toList:=by simp[kl]
def GD.fd {W:Aa}{o o':Own}{v:Ac}{l:List Pg.D}{i:Nat}(h:GD W o v l i)(h6:i<=6)(hl:i<=l.length)(hs:¬(i<6/\i<l.length))(he:∀ k,o k=(4,0)->o' k=(1,0)):FD W o' v (fits l):=by
 have e:l.take i=l.take 6:=by
  by_cases h:i=6
  ·rw[h]
  ·rw[Ad (by omega),Ad (by omega)]
 unfold GD at h;rw[e]at h;have hn:(fits l).length=i:=by unfold fits;simp;omega
 refine⟨by omega,?_⟩
 rw[hn];exact h.B9 o' _ he
def ue {a:Option Addr}{n c:Nat}:∀ u ∈ [Value.slice a n c],u.oneCell'=true:=by intro u hu;simp at hu;subst hu;rfl
def Wg {k a b i n:Int}:∀ u ∈ [Value.int .i64 k,I Z a,I Z b,I Z i,I Z n],u.oneCell'=true:=by
 intro u hu;simp at hu;rcases hu with rfl|rfl|rfl|rfl|rfl<;>rfl
def qh6 (v:Ac) (raw:List (List (List Pg.D))) (w:Aa) (h:BL w v raw) (hI:TI raw) :
  Ab Tryz.prog 5 #[v] w (TW raw w):=by
 obtain⟨a,c,rfl,hlen,hop⟩:=h.opened;unfold maxLen at hlen;have HOp:=Qa hop;have HI:=Qa hI;have HE:Q2 ((raw.isEmpty=true->pm raw=[[]])/\(raw.isEmpty=false->pm raw=Gq raw)/\(raw.length=0->raw.isEmpty=true)/\(0<raw.length->raw.isEmpty=false)):=Qa (by
  unfold pm;cases raw<;>simp)
 obtain⟨iD,hi5,hs5,hy5,hz5⟩:=WV;obtain⟨iS,hi1,hs1,hy1,hz1⟩:=WR;obtain⟨iB,hi2,hs2,hy2,hz2⟩:=VZ;have Amk:=underlying45;have Aef:=underlying46;have Aee:=underlying22;clear h hop hI;go_in;go_wp2_with fail;go_loopw [3,4,5,6,7,8] (fun vo it _ _ _ _ wr=>∃ (t:Nat) (o:Own),it=I Z t/\t<=4/\t<=raw.length/\FT (2,0) wr o vo ((raw.take t).map rz)/\Wk w wr o) (fun _ it _ _ _ _ _=>4-(intOf it).toNat)
 case atStart=>exact⟨0,fun _=>(0,0),rfl,by omega,by omega,FT.nil _ _ _,qd w,fun _ _=>rfl⟩
 case round =>
  obtain⟨t,o,rfl,ht4,htl,hF,hK⟩:=hrel;obtain⟨wo,rfl⟩:=Ja0 wr;obtain⟨hF0,vs0,hv0,eZ,pK⟩:=id hF;have hn0:((raw.take t).map rz).length=t:=by simp;omega
  rw[hn0]at eZ hv0;obtain⟨pa0,nV,rfl⟩:=eZ.A6;have hstop:(t<4/\t<raw.length)\/¬(t<4/\t<raw.length):=by omega
  rcases hstop with ⟨h4,hll⟩|hstop
  ·have tI:(t:Int)<4:=by omega
   have tL:(t:Int)<(raw.length:Int):=by omega
   obtain⟨ls,hls⟩:∃ ls,raw[t]?=some ls:=⟨raw[t],Qb hll⟩;obtain⟨b1,yA,u1,rfl,q1,hB1⟩:=HOp.o t ls hls;obtain⟨a1,c1,rfl,hl1,Adp⟩:=hB1.opened;unfold maxLen at hl1;have Aiw:=Qa Adp;have HQ1:=Qa q1;have vO:=Qa hls;have r1:=(hK.b.cell (p:=⟨b1,yA+t,none⟩) (xy q1)).trans q1;have wG:=Qa hv0;clear hB1 Adp q1 hls eZ pK hv0 hn0;go_wp2_with fail;clear r1;go_loopw [5,6,7,8] (fun bo bt _ _ wr=>∃ (b:Nat) (o:Own),bt=I Z b/\b<=3/\b<=ls.length/\FT (2,0) wr o (.slice pa0 t nV) ((raw.take t).map rz)/\FB (3,0) wr o bo (yt ls b)/\Wk w wr o) (fun _ bt _ _ _=>3-(intOf bt).toNat)
   case atStart=>exact⟨0,o,rfl,by omega,by omega,hF,FB.nil _ _ _,hK⟩
   case round =>
    clear hF hK hF0;obtain⟨b,o,rfl,hb3,hbl,hF,hG,hK⟩:=hrel;obtain⟨wo,rfl⟩:=Ja0 wr;obtain⟨hG0,vs1,hv1,fM,pM⟩:=id hG;obtain⟨iP,iq,rfl⟩:=fM.A6;have r1:=(hK.b.cell (p:=⟨b1,yA+t,none⟩) (xy HQ1.o)).trans HQ1.o;have hstop:(b<3/\b<ls.length)\/¬(b<3/\b<ls.length):=by omega
    rcases hstop with ⟨h3,hlb⟩|hstop
    ·have bI:(b:Int)<3:=by omega
     have bL:(b:Int)<(ls.length:Int):=by omega
     obtain⟨l,hl⟩:∃ l,ls[b]?=some l:=⟨ls[b],Qb hlb⟩;obtain⟨b2,dW,u2,rfl,q2,hB2⟩:=Aiw.o b l hl;obtain⟨a2,c2,rfl,hl2,Adq⟩:=hB2.opened;unfold maxLen at hl2;have Aix:=Qa Adq;have oI:=Qa q2;have HL:=Qa hl;have HDI:Q2 (∀ d ∈ l,DI d):=Qa (fun d hd=>HI.o ls (Qe vO.o) l (Qe hl) d hd);have r2:=(hK.b.cell (p:=⟨b2,dW+b,none⟩) (xy q2)).trans q2;have vJ:∀ i,i<=6->i<=l.length->¬(i<6/\i<l.length)->(i=0->yt ls (b+1)=yt ls b)/\(0<i->yt ls (b+1)=yt ls b++[fits l]):=fun i h1 h2 h3=>by
      rw[qlh hl];have e:(fits l).length=i:=by unfold fits;simp;omega
      refine⟨fun h=>?_,fun h=>?_⟩
      ·rw[List.eq_nil_of_length_eq_zero (e.trans h)];simp
      ·have:(fits l).isEmpty=false:=by cases hf:fits l with
        | nil=>rw[hf]at e;simp at e;omega
        | cons=>rfl
       rw[this];simp
     have qO:=Qa (WH ls b);clear hB2 Adq q2 hl fM pM hv1;generalize hN1:(yt ls b).length=n1 at *;have HN1:=Qa hN1;clear hN1;go_wp2_with fail;clear r1 r2;go_loopw [7,8] (fun lo it wr=>∃ (i:Nat) (o:Own),it=I Z i/\i<=6/\i<=l.length/\FT (2,0) wr o (.slice pa0 t nV) ((raw.take t).map rz)/\FB (3,0) wr o (.slice iP n1 iq) (yt ls b)/\GD wr o lo l i/\Wk w wr o) (fun _ it _=>6-(intOf it).toNat)
     case atStart=>exact⟨0,o,rfl,by omega,by omega,hF,hG,Row.nil _ _ _ _ _,hK⟩
     case round =>
      clear hF hG hK hG0;obtain⟨i,o,rfl,hi6,hil,hF,hG,hR,hK⟩:=hrel;obtain⟨wo,rfl⟩:=Ja0 wr;obtain⟨tC,cp2,rfl⟩:=Row.A6 hR;have r1:=(hK.b.cell (p:=⟨b1,yA+t,none⟩) (xy HQ1.o)).trans HQ1.o;have r2:=(hK.b.cell (p:=⟨b2,dW+b,none⟩) (xy oI.o)).trans oI.o;have hstop:(i<6/\i<l.length)\/¬(i<6/\i<l.length):=by omega
      rcases hstop with ⟨h6,hli⟩|hstop
      ·have iI:(i:Int)<6:=by omega
       have iL:(i:Int)<(l.length:Int):=by omega
       obtain⟨d,hd⟩:∃ d,l[i]?=some d:=⟨l[i],Qb hli⟩;obtain⟨b3,nJ,rfl,hc5⟩:=Aix.o i d hd;obtain⟨p0,p1,p2,p3,p4⟩:=hc5.below hK.b;obtain⟨z0,z1,z2,z3,z4⟩:=HDI.out d (Qe hd);obtain⟨fk,fa,fb,fi,fn,hfit⟩:∃ fk fa fb fi fn,fit d=⟨fk,fa,fb,fi,fn⟩:=⟨_,_,_,_,_,rfl⟩;have Aia:=Qa (show Ab Tryz.prog 18 #[Al #[d.k,d.a,d.b,d.i,d.n]] wo fun e w'=>e=O (Al #[fk,fa,fb,fi,fn])/\Ae wo wo w' from by
        refine (LU d z0 z1 z2 z3 z4 wo).mono ?_;rintro e w' ⟨rfl,hb⟩;rw[hfit];exact⟨rfl,hb⟩)
       have uM:=g9 _ _ _ hd;have HFin:=Qa (fun (w4:Aa) (o4:Own) (v4:Ac) (hown:Row w4 o4 (4,0) 44 5 v4 (i+1) (kl ((l.take i).map fit)++[I Z fk,I Z fa,I Z fb,I Z fi,I Z fn]))=>show GD w4 o4 v4 l (i+1) from by
        unfold GD;rw[uM,Qw,List.map_cons,List.map_nil,hfit,qmm];exact hown)
       have dE:i+1<=maxLen:=by simp only[maxLen];omega
       have hmb:(i+1)*40<=140737488355328:=by omega
       clear hd hc5 z0 z1 z2 z3 z4 hfit uM;go_wp2_with (first
        | (go_at_call 18;refine Aia.o.mono ?_;rintro e w3 ⟨rfl,hb3⟩;have rn:=(Row.below hR hb3).below (qc (qd w3) (.cells #[fk,fa,fb,fi,fn] 44));have jn:=An.new w3 #[fk,fa,fb,fi,fn] 44)
        | (at_builtin;refine qg _ rfl _ _ _ rfl 44 iD _ 5 40 Amk hi5 hz5 hs5 hy5 rfl (by decide) o (4,0) _ _ _ rfl rn ⟨w3,0,none⟩ 1 1 [I Z fk,I Z fa,I Z fb,I Z fi,I Z fn] rfl rfl (gm jn) Wg dE hmb ?_;intro v' w4 hown hst;obtain⟨pa',cp',rfl⟩:=hown.A6)
        | fail)
       all_goals
        have k4:=(Stp.of_below (T:=fun t=>t=(4,0)) (o:=o) (qc hb3 (.cells #[fk,fa,fb,fi,fn] 44))).trans hst;have g4:=HFin.o _ _ _ hown;go_roundw
        case rel=>exact⟨i+1,_,by simp,by omega,by omega,hF.Ar k4 (by simp) (by simp),hG.Ar k4 (by simp) (by simp),g4,hK.Ar k4 (by simp)⟩
        case measure=>simp[intOf];omega
      ·-- the Arc of a block are done
       have hEx:=(vJ i hi6 hil hstop);by_cases hi0:i=0
       ·subst hi0
        have hE2:=Qa (hEx.1 rfl);have HF:=Qa hF;have HG:=Qa hG;have HK:=Qa hK;clear hF hG hR hK hEx;have hdone:¬((0:Int)<(l.length:Int)):=by omega
        clear hstop;go_wp2_with fail;go_roundw
        case rel=>exact⟨b+1,o,by simp,by omega,by omega,HF.o,by rw[hE2.o];exact HG.o,HK.o⟩
        case measure=>simp[intOf];omega
       ·have Ade:0<i:=by omega
        have iI:(0:Int)<(i:Int):=by omega
        have hE2:=Qa (hEx.2 Ade);have hfd:=hR.fd hi6 hil hstop (o':=B9 o (4,0) (1,0)) (fun k hk=>U4 hk);have hF2:=Qa (hF.B9 (o':=B9 o (4,0) (1,0)) (fun k hk=>by rw[dg (by rw[hk];simp)];exact hk) (2,0) (fun k hk=>by rw[dg (by rw[hk];simp)];exact hk))
        have hG2:=hG.B9 (o':=B9 o (4,0) (1,0)) (fun k hk=>by rw[dg (by rw[hk];simp)];exact hk) (3,0) (fun k hk=>by rw[dg (by rw[hk];simp)];exact hk)
        have hK2:=Qa (hK.B9 (a:=(4,0)) (b:=(1,0)) (by simp))
        generalize B9 o (4,0) (1,0)=o2 at *;obtain⟨hG0,vs1,hv1,fM,pM⟩:=id hG2;rw[HN1.o]at fM hv1;have rn:=fM.below (qc (qd wo) (.cells #[.slice tC i cp2] 45));have jn:=An.new wo #[.slice tC i cp2] 45;have dE:n1+1<=maxLen:=by have:=qO.o;simp only[maxLen];omega
        have hmb:(n1+1)*24<=140737488355328:=by have:=qO.o;omega
        have HFD:=Qa hfd;have HG2:=Qa hG2;have HVS:=Qa pM;have HV1:=Qa hv1;have hsz:n1<3:=by have:=qO.o;omega
        have HFin:=Qa (fun (w4:Aa) (o4:Own) (v4:Ac) (hown:Row w4 o4 (3,0) 45 1 v4 (n1+1) (vs1++[.slice tC i cp2])) (hst:Stp (fun t=>t=(3,0)) o2 o4 (wo.alloc (.cells #[.slice tC i cp2] 45)) w4) =>
         show FT (2,0) w4 o4 (.slice pa0 t nV) ((raw.take t).map rz)/\FB (3,0) w4 o4 v4 (yt ls (b+1))/\Wk w w4 o4 from by
          have k4:=(Stp.of_below (T:=fun t=>t=(3,0)) (o:=o2) (qc (qd wo) (.cells #[.slice tC i cp2] 45))).trans hst;refine⟨hF2.o.Ar k4 (by simp) (by simp),?_,hK2.o.Ar k4 (by simp)⟩
          rw[hE2.o];exact FB.snoc (by rw[HN1.o];exact hsz) k4 (by simp) (by rw[HN1.o];exact HV1.o) HFD.o HVS.o (by rw[HN1.o];exact hown))
        clear hF hG hR hK hEx hfd hG2 pM hv1 hG0 fM;rcases (show (i<l.length/\i=6)\/l.length=i by omega) with ⟨hlt,rfl⟩|hle
        ·have iL:(6:Int)<(l.length:Int):=by omega
         clear hstop;go_wp2_with (first
          | (at_builtin;refine qg _ rfl _ _ _ rfl 45 iS _ 1 24 Aef hi1 hz1 hs1 hy1 rfl (by decide) o2 (3,0) _ _ _ rfl rn ⟨wo,0,none⟩ 1 1 [.slice tC 6 cp2] rfl rfl (qx jn) ue dE hmb ?_;intro v' w4 hown hst;obtain⟨pa',cp',rfl⟩:=hown.A6)
          | fail)
         obtain⟨f1,f2,f3⟩:=HFin.o _ _ _ hown hst;go_roundw
         case rel=>exact⟨b+1,_,by simp,by omega,by omega,f1,f2,f3⟩
         case measure=>simp[intOf];omega
        ·have iL:¬((i:Int)<(l.length:Int)):=by omega
         have yJ:=Qa hle;clear hstop hle;go_wp2_with (first
          | (at_builtin;refine qg _ rfl _ _ _ rfl 45 iS _ 1 24 Aef hi1 hz1 hs1 hy1 rfl (by decide) o2 (3,0) _ _ _ rfl rn ⟨wo,0,none⟩ 1 1 [.slice tC i cp2] rfl rfl (qx jn) ue dE hmb ?_;intro v' w4 hown hst;obtain⟨pa',cp',rfl⟩:=hown.A6)
          | fail)
         obtain⟨f1,f2,f3⟩:=HFin.o _ _ _ hown hst;go_roundw
         case rel=>exact⟨b+1,_,by simp,by omega,by omega,f1,f2,f3⟩
         case measure=>simp[intOf];omega
    ·-- the blocks of a C9 are done
     have xE:=hG.B9 (o':=B9 o (3,0) (1,0)) (fun k hk=>by rw[dg (by rw[hk];simp)];exact hk) (1,0) (fun k hk=>U4 hk)
     have hF2:=hF.B9 (o':=B9 o (3,0) (1,0)) (fun k hk=>by rw[dg (by rw[hk];simp)];exact hk) (2,0) (fun k hk=>by rw[dg (by rw[hk];simp)];exact hk)
     have hK2:=Qa (hK.B9 (a:=(3,0)) (b:=(1,0)) (by simp))
     generalize B9 o (3,0) (1,0)=o2 at *;generalize hN1:(yt ls b).length=n1 at *;have hB:yt ls b=rz ls:=by
      unfold yt rz;have e:ls.take b=ls.take 3:=by
       by_cases h:b=3
       ·rw[h]
       ·rw[Ad (by omega),Ad (by omega)]
      rw[e]
     rw[hB]at xE;have hE:(raw.take (t+1)).map rz=(raw.take t).map rz++[rz ls]:=by
      rw[g9 _ _ _ vO.o,Qw];rfl
     obtain⟨hF0,vs0,hv0,eZ,pK⟩:=id hF2;have hn0:((raw.take t).map rz).length=t:=by simp;omega
     rw[hn0]at eZ hv0;have rn:=eZ.below (qc (qd wo) (.cells #[.slice iP n1 iq] 46));have jn:=An.new wo #[.slice iP n1 iq] 46;have dE:t+1<=maxLen:=by simp only[maxLen];omega
     have hmb:(t+1)*24<=140737488355328:=by omega
     have HFin:=Qa (fun (w4:Aa) (o4:Own) (v4:Ac) (hown:Row w4 o4 (2,0) 46 1 v4 (t+1) (vs0++[.slice iP n1 iq])) (hst:Stp (fun t=>t=(2,0)) o2 o4 (wo.alloc (.cells #[.slice iP n1 iq] 46)) w4) =>
      show FT (2,0) w4 o4 v4 ((raw.take (t+1)).map rz)/\Wk w w4 o4 from by
       have k4:=(Stp.of_below (T:=fun t=>t=(2,0)) (o:=o2) (qc (qd wo) (.cells #[.slice iP n1 iq] 46))).trans hst;refine⟨?_,hK2.o.Ar k4 (by simp)⟩
       rw[hE];exact FT.snoc (by rw[hn0];omega) k4 (by simp) (by rw[hn0];exact hv0) xE pK (by rw[hn0];exact hown))
     clear hF hG hK hG0 fM pM hv1 hN1 xE hF2 hB hE hF0 hv0 eZ pK hn0;rcases (show (b<ls.length/\b=3)\/ls.length=b by omega) with ⟨hlt,rfl⟩|hle
     ·have iL:(3:Int)<(ls.length:Int):=by omega
      clear hstop;go_wp2_with (first
       | (at_builtin;refine qg _ rfl _ _ _ rfl 46 iB _ 1 24 Aee hi2 hz2 hs2 hy2 rfl (by decide) o2 (2,0) _ _ _ rfl rn ⟨wo,0,none⟩ 1 1 [.slice iP n1 iq] rfl rfl (qx jn) ue dE hmb ?_;intro v' w4 hown hst;obtain⟨pa',cp',rfl⟩:=hown.A6)
       | fail)
      obtain⟨f1,f2⟩:=HFin.o _ _ _ hown hst;go_roundw
      case rel=>exact⟨t+1,_,by simp,by omega,by omega,f1,f2⟩
      case measure=>simp[intOf];omega
     ·have iL:¬((b:Int)<(ls.length:Int)):=by omega
      have yJ:=Qa hle;clear hstop hle;go_wp2_with (first
       | (at_builtin;refine qg _ rfl _ _ _ rfl 46 iB _ 1 24 Aee hi2 hz2 hs2 hy2 rfl (by decide) o2 (2,0) _ _ _ rfl rn ⟨wo,0,none⟩ 1 1 [.slice iP n1 iq] rfl rfl (qx jn) ue dE hmb ?_;intro v' w4 hown hst;obtain⟨pa',cp',rfl⟩:=hown.A6)
       | fail)
      obtain⟨f1,f2⟩:=HFin.o _ _ _ hown hst;go_roundw
      case rel=>exact⟨t+1,_,by simp,by omega,by omega,f1,f2⟩
      case measure=>simp[intOf];omega
  ·-- all threads are done
   have hT:(raw.take t).map rz=Gq raw:=by
    unfold Gq;have e:raw.take t=raw.take 4:=by
     by_cases h:t=4
     ·rw[h]
     ·rw[Ad (by omega),Ad (by omega)]
    rw[e]
   have hF2:=hF.B9 (o':=B9 o (2,0) (1,0)) (fun k hk=>by rw[dg (by rw[hk];simp)];exact hk) (1,0) (fun k hk=>U4 hk)
   have hK2:=hK.B9 (a:=(2,0)) (b:=(1,0)) (by simp)
   rw[hT]at hF2;have rR:=Qa (show 0<t->TW raw w (O (.slice pa0 t nV)) wo from fun h0=>⟨_,_,rfl,by rw[HE.out.2.1 (HE.out.2.2.2 (by omega))];exact hF2,hK2⟩)
   have kR:=Qa (show t=0->TW raw w (O (Ai (some ⟨wo,0,none⟩) 1 1)) (wo.alloc (.cells #[Ai none 0 0] 46)) from fun h0=>by
    refine⟨_,ext (B9 o (2,0) (1,0)) wo (1,0),rfl,?_,?_⟩
    ·rw[HE.out.1 (HE.out.2.2.1 (by omega))]
     refine⟨by simp,[Ai none 0 0],rfl,⟨⟨rfl,.inr ⟨wo.1.size,1,#[Ai none 0 0],rfl,Nat.zero_le _,An.new _ _ _,Qk _,by simp[maxLen],rfl,rfl⟩⟩,fun k hk=>?_⟩,fun j bs hj=>?_⟩
     ·have:wo.1.size=k:=by simpa [Value.ownBlock] using hk
      subst this;exact qq (Qk _)
     ·have:j=0:=by
       have:=(Qc.1 hj).1;simpa using this
      subst this;simp at hj;subst hj;exact⟨_,rfl,FB.nil _ _ _⟩
    ·refine⟨qc hK2.b _,fun b hb=>?_⟩
     rw[qk (Qn hb hK2.b.size)];exact hK2.z b hb)
   clear hF hK hF2 hK2 hT hF0 hv0 eZ pK hn0;by_cases h0:t=0
   ·subst h0
    have hl0:¬((0:Int)<(raw.length:Int)):=by omega
    have HF0:=Qa (kR.o rfl);clear rR kR hstop;go_wp2_with fail;go_ret;exact HF0.o
   ·have tP:(0:Int)<(t:Int):=by omega
    have tN:(((t:Int))==0)=false:=by rw[Qh];omega
    have HF1:=Qa (rR.o (by omega))
    rcases (show (t<raw.length/\t=4)\/raw.length=t by omega) with ⟨hlt,rfl⟩|hle
    ·have iL:(4:Int)<(raw.length:Int):=by omega
     clear hstop rR kR;go_wp2_with fail;go_ret;exact HF1.o
    ·have iL:¬((t:Int)<(raw.length:Int)):=by omega
     have yJ:=Qa hle;clear hstop hle rR kR;go_wp2_with fail;go_ret;exact HF1.o
