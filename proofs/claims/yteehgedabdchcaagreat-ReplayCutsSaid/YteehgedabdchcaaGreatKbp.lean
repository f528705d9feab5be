import Derived.Test.YteehgedabdchcaaGreatKao
import Derived.Test.YteehgedabdchcaaGreatKbo
set_option linter.all false
set_option maxRecDepth 1000000
set_option maxHeartbeats 0
open Go renaming World->Aa,Calls->Ab,Value->Ac
open Go.RowKit renaming Below->Ae
open Go.Value renaming int->I,slice->Ah,agg->Ak
open Go.IntKind renaming i64->Z
open Go.Ending renaming returned->O
open List renaming take_of_length_le->Ad
open Go.Proofs.Tryz
namespace Go.Proofs.YteehgedabdchcaaGreat
open Go.RowKit Hp
attribute [local go_sem ↓] Go.wp_at_zero Go.wp_at_succ
def YQ:∃ i,Tryz.prog.info? 73=some i/\i.size=5/\i.bytes=40/\i.zero=some (Ak #[I Z 0,I Z 0,I Z 0,I Z 0,I Z 0]):=info_parts (by kernel_rfl)
def XQ:∃ i,Tryz.prog.info? 71=some i/\i.size=1/\i.bytes=24/\i.zero=some (Ah none 0 0):=info_parts (by kernel_rfl)
def WV:∃ i,Tryz.prog.info? 67=some i/\i.size=1/\i.bytes=24/\i.zero=some (Ah none 0 0):=info_parts (by kernel_rfl)
def Uz (raw:List (List (List Pg.D)))(w:Aa)(e:Ending)(w':Aa):Prop:=
 ∃ (v:Ac)(o:Own),e=O v/\FT (1,0) w' o v (jr raw)/\Wk w w' o
def GD (W:Aa)(o:Own)(v:Ac)(l:List Pg.D)(i:Nat):Prop:=Row W o (4,0) 73 5 v i (kn ((l.take i).map fit))
def qkq (l:List Pg.D)(d:Pg.D):kn (l++[d])=kn l++(ke d).toList:=by simp[kn]
def GD.fd {W:Aa}{o o':Own}{v:Ac}{l:List Pg.D}{i:Nat}(h:GD W o v l i)(h6:i<=6)(hl:i<=l.length)(hs:¬(i<6/\i<l.length))(he:∀ k,o k=(4,0)->o' k=(1,0)):FD W o' v (fits l):=by
 have e:l.take i=l.take 6:=by
  by_cases h:i=6
  ·rw[h]
  ·rw[Ad (by omega),Ad (by omega)]
 unfold GD at h;rw[e]at h;have hn:(fits l).length=i:=by unfold fits;simp;omega
 refine⟨by omega,?_⟩
 rw[hn];exact h.B5 o' _ he
def ue {a:Option Addr}{n c:Nat}:∀ u ∈ [Value.slice a n c],u.oneCell'=true:=by intro u hu;simp at hu;subst hu;rfl
def XE {k a b i n:Int}:∀ u ∈ [Value.int .i64 k,I Z a,I Z b,I Z i,I Z n],u.oneCell'=true:=by
 intro u hu;simp at hu;rcases hu with rfl|rfl|rfl|rfl|rfl<;>rfl
def qgh (v:Ac) (raw:List (List (List Pg.D))) (w:Aa) (h:AH w v raw) (hI:TI raw) :
  Ab Tryz.prog 28 #[v] w (Uz raw w):=by
 obtain⟨a,c,rfl,hlen,hop⟩:=h.opened;unfold maxLen at hlen;have HOp:=Qa hop;have HI:=Qa hI;have HE:Hid ((raw.isEmpty=true->jr raw=[[]])/\(raw.isEmpty=false->jr raw=FA raw)/\(raw.length=0->raw.isEmpty=true)/\(0<raw.length->raw.isEmpty=false)):=Qa (by
  unfold jr;cases raw<;>simp)
 obtain⟨iD,hi5,hs5,hy5,hz5⟩:=YQ;obtain⟨iS,hi1,hs1,hy1,hz1⟩:=XQ;obtain⟨iB,hi2,hs2,hy2,hz2⟩:=WV;have Aoz:=underlying71;have Agr:=underlying67;have Agq:=underlying47;clear h hop hI;go_enter func28,ntmps28;go_wp2_with fail;go_loopw [3,4,5,6,7,8] (fun vo it _ _ _ _ wr=>∃ (t:Nat) (o:Own),it=I Z t/\t<=4/\t<=raw.length/\FT (2,0) wr o vo ((raw.take t).map ni)/\Wk w wr o) (fun _ it _ _ _ _ _=>4-(intOf it).toNat)
 case atStart=>exact⟨0,fun _=>(0,0),rfl,by omega,by omega,FT.nil _ _ _,qd w,fun _ _=>rfl⟩
 case round =>
  obtain⟨t,o,rfl,ht4,htl,hF,hK⟩:=hrel;obtain⟨wo,rfl⟩:=Ja0 wr;obtain⟨hF0,vs0,hv0,fC,rV⟩:=id hF;have hn0:((raw.take t).map ni).length=t:=by simp;omega
  rw[hn0]at fC hv0;obtain⟨pa0,fE,rfl⟩:=fC.AS;have hstop:(t<4/\t<raw.length)\/¬(t<4/\t<raw.length):=by omega
  rcases hstop with ⟨h4,hll⟩|hstop
  ·have tI:(t:Int)<4:=by omega
   have tL:(t:Int)<(raw.length:Int):=by omega
   obtain⟨ls,hls⟩:∃ ls,raw[t]?=some ls:=⟨raw[t],Qb hll⟩;obtain⟨b1,lY,u1,rfl,q1,hB1⟩:=HOp.out t ls hls;obtain⟨a1,c1,rfl,hl1,Agc⟩:=hB1.opened;unfold maxLen at hl1;have Alr:=Qa Agc;have HQ1:=Qa q1;have yJ:=Qa hls;have r1:=(hK.b.cell (p:=⟨b1,lY+t,none⟩) (qh q1)).trans q1;have HV0:=Qa hv0;clear hB1 Agc q1 hls fC rV hv0 hn0;go_wp2_with fail;clear r1;go_loopw [5,6,7,8] (fun bo bt _ _ wr=>∃ (b:Nat) (o:Own),bt=I Z b/\b<=3/\b<=ls.length/\FT (2,0) wr o (.slice pa0 t fE) ((raw.take t).map ni)/\FB (3,0) wr o bo (yq ls b)/\Wk w wr o) (fun _ bt _ _ _=>3-(intOf bt).toNat)
   case atStart=>exact⟨0,o,rfl,by omega,by omega,hF,FB.nil _ _ _,hK⟩
   case round =>
    clear hF hK hF0;obtain⟨b,o,rfl,hb3,hbl,hF,hG,hK⟩:=hrel;obtain⟨wo,rfl⟩:=Ja0 wr;obtain⟨hG0,vs1,hv1,gH,rW⟩:=id hG;obtain⟨jQ,gP,rfl⟩:=gH.AS;have r1:=(hK.b.cell (p:=⟨b1,lY+t,none⟩) (qh HQ1.out)).trans HQ1.out;have hstop:(b<3/\b<ls.length)\/¬(b<3/\b<ls.length):=by omega
    rcases hstop with ⟨h3,hlb⟩|hstop
    ·have bI:(b:Int)<3:=by omega
     have bL:(b:Int)<(ls.length:Int):=by omega
     obtain⟨l,hl⟩:∃ l,ls[b]?=some l:=⟨ls[b],Qb hlb⟩;obtain⟨b2,dU,u2,rfl,q2,hB2⟩:=Alr.out b l hl;obtain⟨a2,c2,rfl,hl2,Agd⟩:=hB2.opened;unfold maxLen at hl2;have Als:=Qa Agd;have qW:=Qa q2;have HL:=Qa hl;have HDI:Hid (∀ d ∈ l,DI d):=Qa (fun d hd=>HI.out ls (Qe yJ.out) l (Qe hl) d hd);have r2:=(hK.b.cell (p:=⟨b2,dU+b,none⟩) (qh q2)).trans q2;have yF:∀ i,i<=6->i<=l.length->¬(i<6/\i<l.length)->(i=0->yq ls (b+1)=yq ls b)/\(0<i->yq ls (b+1)=yq ls b++[fits l]):=fun i h1 h2 h3=>by
      rw[qj0 hl];have e:(fits l).length=i:=by unfold fits;simp;omega
      refine⟨fun h=>?_,fun h=>?_⟩
      ·rw[List.eq_nil_of_length_eq_zero (e.trans h)];simp
      ·have:(fits l).isEmpty=false:=by cases hf:fits l with
        | nil=>rw[hf]at e;simp at e;omega
        | cons=>rfl
       rw[this];simp
     have qQ:=Qa (YI ls b);clear hB2 Agd q2 hl gH rW hv1;generalize hN1:(yq ls b).length=n1 at *;have tC:=Qa hN1;clear hN1;go_wp2_with fail;clear r1 r2;go_loopw [7,8] (fun lo it wr=>∃ (i:Nat) (o:Own),it=I Z i/\i<=6/\i<=l.length/\FT (2,0) wr o (.slice pa0 t fE) ((raw.take t).map ni)/\FB (3,0) wr o (.slice jQ n1 gP) (yq ls b)/\GD wr o lo l i/\Wk w wr o) (fun _ it _=>6-(intOf it).toNat)
     case atStart=>exact⟨0,o,rfl,by omega,by omega,hF,hG,Row.nil _ _ _ _ _,hK⟩
     case round =>
      clear hF hG hK hG0;obtain⟨i,o,rfl,hi6,hil,hF,hG,hR,hK⟩:=hrel;obtain⟨wo,rfl⟩:=Ja0 wr;obtain⟨wH,cp2,rfl⟩:=Row.AS hR;have r1:=(hK.b.cell (p:=⟨b1,lY+t,none⟩) (qh HQ1.out)).trans HQ1.out;have r2:=(hK.b.cell (p:=⟨b2,dU+b,none⟩) (qh qW.out)).trans qW.out;have hstop:(i<6/\i<l.length)\/¬(i<6/\i<l.length):=by omega
      rcases hstop with ⟨h6,hli⟩|hstop
      ·have iI:(i:Int)<6:=by omega
       have iL:(i:Int)<(l.length:Int):=by omega
       obtain⟨d,hd⟩:∃ d,l[i]?=some d:=⟨l[i],Qb hli⟩;obtain⟨b3,pO,rfl,hc5⟩:=Als.out i d hd;obtain⟨p0,p1,p2,p3,p4⟩:=hc5.below hK.b;obtain⟨z0,z1,z2,z3,z4⟩:=HDI.out d (Qe hd);obtain⟨fk,fa,fb,fi,fn,hfit⟩:∃ fk fa fb fi fn,fit d=⟨fk,fa,fb,fi,fn⟩:=⟨_,_,_,_,_,rfl⟩;have Aks:=Qa (show Ab Tryz.prog 85 #[Ak #[I Z d.k,I Z d.a,I Z d.b,I Z d.i,I Z d.n]] wo fun e w'=>e=O (Ak #[I Z fk,I Z fa,I Z fb,I Z fi,I Z fn])/\Ae wo.1.size wo w' from by
        refine (L8 d z0 z1 z2 z3 z4 wo).mono ?_;rintro e w' ⟨rfl,hb⟩;rw[hfit];exact⟨rfl,hb⟩)
       have xB:=mz _ _ _ hd;have HFin:=Qa (fun (w4:Aa) (o4:Own) (v4:Ac) (hown:Row w4 o4 (4,0) 73 5 v4 (i+1) (kn ((l.take i).map fit)++[I Z fk,I Z fa,I Z fb,I Z fi,I Z fn]))=>show GD w4 o4 v4 l (i+1) from by
        unfold GD;rw[xB,Qx,List.map_cons,List.map_nil,hfit,qkq];exact hown)
       have dX:i+1<=maxLen:=by simp only[maxLen];omega
       have hmb:(i+1)*40<=140737488355328:=by omega
       clear hd hc5 z0 z1 z2 z3 z4 hfit xB;go_wp2_with (first
        | (go_at_call 85;refine Aks.out.mono ?_;rintro e w3 ⟨rfl,hb3⟩;have rn:=(Row.below hR hb3).below (qc (qd w3) (.cells #[I Z fk,I Z fa,I Z fb,I Z fi,I Z fn] 73));have jn:=Al.new w3 #[I Z fk,I Z fa,I Z fb,I Z fi,I Z fn] 73)
        | (at_builtin;refine qi _ rfl _ _ _ rfl 73 iD _ 5 40 Aoz hi5 hz5 hs5 hy5 rfl (by decide) o (4,0) _ _ _ rfl rn ⟨w3.1.size,0,none⟩ 1 1 [I Z fk,I Z fa,I Z fb,I Z fi,I Z fn] rfl rfl (xw jn) XE dX hmb ?_;intro v' w4 hown hst;obtain⟨pa',cp',rfl⟩:=hown.AS)
        | fail)
       all_goals
        have k4:=(Stp.of_below (T:=fun t=>t=(4,0)) (o:=o) (qc hb3 (.cells #[I Z fk,I Z fa,I Z fb,I Z fi,I Z fn] 73))).trans hst;have g4:=HFin.out _ _ _ hown;go_roundw
        case rel=>exact⟨i+1,_,by simp,by omega,by omega,hF.Ao k4 (by simp) (by simp),hG.Ao k4 (by simp) (by simp),g4,hK.Ao k4 (by simp)⟩
        case measure=>simp[intOf];omega
      ·-- the EB of a block are done
       have hEx:=(yF i hi6 hil hstop);by_cases hi0:i=0
       ·subst hi0
        have hE2:=Qa (hEx.1 rfl);have HF:=Qa hF;have HG:=Qa hG;have HK:=Qa hK;clear hF hG hR hK hEx;have hdone:¬((0:Int)<(l.length:Int)):=by omega
        clear hstop;go_wp2_with fail;go_roundw
        case rel=>exact⟨b+1,o,by simp,by omega,by omega,HF.out,by rw[hE2.out];exact HG.out,HK.out⟩
        case measure=>simp[intOf];omega
       ·have Afs:0<i:=by omega
        have iI:(0:Int)<(i:Int):=by omega
        have hE2:=Qa (hEx.2 Afs);have hfd:=hR.fd hi6 hil hstop (o':=B5 o (4,0) (1,0)) (fun k hk=>VU hk);have hF2:=Qa (hF.B5 (o':=B5 o (4,0) (1,0)) (fun k hk=>by rw[m5 (by rw[hk];simp)];exact hk) (2,0) (fun k hk=>by rw[m5 (by rw[hk];simp)];exact hk))
        have hG2:=hG.B5 (o':=B5 o (4,0) (1,0)) (fun k hk=>by rw[m5 (by rw[hk];simp)];exact hk) (3,0) (fun k hk=>by rw[m5 (by rw[hk];simp)];exact hk)
        have hK2:=Qa (hK.B5 (a:=(4,0)) (b:=(1,0)) (by simp))
        generalize B5 o (4,0) (1,0)=o2 at *;obtain⟨hG0,vs1,hv1,gH,rW⟩:=id hG2;rw[tC.out]at gH hv1;have rn:=gH.below (qc (qd wo) (.cells #[.slice wH i cp2] 71));have jn:=Al.new wo #[.slice wH i cp2] 71;have dX:n1+1<=maxLen:=by have:=qQ.out;simp only[maxLen];omega
        have hmb:(n1+1)*24<=140737488355328:=by have:=qQ.out;omega
        have HFD:=Qa hfd;have HG2:=Qa hG2;have HVS:=Qa rW;have HV1:=Qa hv1;have hsz:n1<3:=by have:=qQ.out;omega
        have HFin:=Qa (fun (w4:Aa) (o4:Own) (v4:Ac) (hown:Row w4 o4 (3,0) 71 1 v4 (n1+1) (vs1++[.slice wH i cp2])) (hst:Stp (fun t=>t=(3,0)) o2 o4 (wo.alloc (.cells #[.slice wH i cp2] 71)) w4) =>
         show FT (2,0) w4 o4 (.slice pa0 t fE) ((raw.take t).map ni)/\FB (3,0) w4 o4 v4 (yq ls (b+1))/\Wk w w4 o4 from by
          have k4:=(Stp.of_below (T:=fun t=>t=(3,0)) (o:=o2) (qc (qd wo) (.cells #[.slice wH i cp2] 71))).trans hst;refine⟨hF2.out.Ao k4 (by simp) (by simp),?_,hK2.out.Ao k4 (by simp)⟩
          rw[hE2.out];exact FB.snoc (by rw[tC.out];exact hsz) k4 (by simp) (by rw[tC.out];exact HV1.out) HFD.out HVS.out (by rw[tC.out];exact hown))
        clear hF hG hR hK hEx hfd hG2 rW hv1 hG0 gH;rcases (show (i<l.length/\i=6)\/l.length=i by omega) with ⟨hlt,rfl⟩|hle
        ·have iL:(6:Int)<(l.length:Int):=by omega
         clear hstop;go_wp2_with (first
          | (at_builtin;refine qi _ rfl _ _ _ rfl 71 iS _ 1 24 Agr hi1 hz1 hs1 hy1 rfl (by decide) o2 (3,0) _ _ _ rfl rn ⟨wo.1.size,0,none⟩ 1 1 [.slice wH 6 cp2] rfl rfl (zj jn) ue dX hmb ?_;intro v' w4 hown hst;obtain⟨pa',cp',rfl⟩:=hown.AS)
          | fail)
         obtain⟨f1,f2,f3⟩:=HFin.out _ _ _ hown hst;go_roundw
         case rel=>exact⟨b+1,_,by simp,by omega,by omega,f1,f2,f3⟩
         case measure=>simp[intOf];omega
        ·have iL:¬((i:Int)<(l.length:Int)):=by omega
         have HLE:=Qa hle;clear hstop hle;go_wp2_with (first
          | (at_builtin;refine qi _ rfl _ _ _ rfl 71 iS _ 1 24 Agr hi1 hz1 hs1 hy1 rfl (by decide) o2 (3,0) _ _ _ rfl rn ⟨wo.1.size,0,none⟩ 1 1 [.slice wH i cp2] rfl rfl (zj jn) ue dX hmb ?_;intro v' w4 hown hst;obtain⟨pa',cp',rfl⟩:=hown.AS)
          | fail)
         obtain⟨f1,f2,f3⟩:=HFin.out _ _ _ hown hst;go_roundw
         case rel=>exact⟨b+1,_,by simp,by omega,by omega,f1,f2,f3⟩
         case measure=>simp[intOf];omega
    ·-- the blocks of a thread are done
     have hfb:=hG.B5 (o':=B5 o (3,0) (1,0)) (fun k hk=>by rw[m5 (by rw[hk];simp)];exact hk) (1,0) (fun k hk=>VU hk)
     have hF2:=hF.B5 (o':=B5 o (3,0) (1,0)) (fun k hk=>by rw[m5 (by rw[hk];simp)];exact hk) (2,0) (fun k hk=>by rw[m5 (by rw[hk];simp)];exact hk)
     have hK2:=Qa (hK.B5 (a:=(3,0)) (b:=(1,0)) (by simp))
     generalize B5 o (3,0) (1,0)=o2 at *;generalize hN1:(yq ls b).length=n1 at *;have hB:yq ls b=ni ls:=by
      unfold yq ni;have e:ls.take b=ls.take 3:=by
       by_cases h:b=3
       ·rw[h]
       ·rw[Ad (by omega),Ad (by omega)]
      rw[e]
     rw[hB]at hfb;have hE:(raw.take (t+1)).map ni=(raw.take t).map ni++[ni ls]:=by
      rw[mz _ _ _ yJ.out,Qx];rfl
     obtain⟨hF0,vs0,hv0,fC,rV⟩:=id hF2;have hn0:((raw.take t).map ni).length=t:=by simp;omega
     rw[hn0]at fC hv0;have rn:=fC.below (qc (qd wo) (.cells #[.slice jQ n1 gP] 67));have jn:=Al.new wo #[.slice jQ n1 gP] 67;have dX:t+1<=maxLen:=by simp only[maxLen];omega
     have hmb:(t+1)*24<=140737488355328:=by omega
     have HFin:=Qa (fun (w4:Aa) (o4:Own) (v4:Ac) (hown:Row w4 o4 (2,0) 67 1 v4 (t+1) (vs0++[.slice jQ n1 gP])) (hst:Stp (fun t=>t=(2,0)) o2 o4 (wo.alloc (.cells #[.slice jQ n1 gP] 67)) w4) =>
      show FT (2,0) w4 o4 v4 ((raw.take (t+1)).map ni)/\Wk w w4 o4 from by
       have k4:=(Stp.of_below (T:=fun t=>t=(2,0)) (o:=o2) (qc (qd wo) (.cells #[.slice jQ n1 gP] 67))).trans hst;refine⟨?_,hK2.out.Ao k4 (by simp)⟩
       rw[hE];exact FT.snoc (by rw[hn0];omega) k4 (by simp) (by rw[hn0];exact hv0) hfb rV (by rw[hn0];exact hown))
     clear hF hG hK hG0 gH rW hv1 hN1 hfb hF2 hB hE hF0 hv0 fC rV hn0;rcases (show (b<ls.length/\b=3)\/ls.length=b by omega) with ⟨hlt,rfl⟩|hle
     ·have iL:(3:Int)<(ls.length:Int):=by omega
      clear hstop;go_wp2_with (first
       | (at_builtin;refine qi _ rfl _ _ _ rfl 67 iB _ 1 24 Agq hi2 hz2 hs2 hy2 rfl (by decide) o2 (2,0) _ _ _ rfl rn ⟨wo.1.size,0,none⟩ 1 1 [.slice jQ n1 gP] rfl rfl (zj jn) ue dX hmb ?_;intro v' w4 hown hst;obtain⟨pa',cp',rfl⟩:=hown.AS)
       | fail)
      obtain⟨f1,f2⟩:=HFin.out _ _ _ hown hst;go_roundw
      case rel=>exact⟨t+1,_,by simp,by omega,by omega,f1,f2⟩
      case measure=>simp[intOf];omega
     ·have iL:¬((b:Int)<(ls.length:Int)):=by omega
      have HLE:=Qa hle;clear hstop hle;go_wp2_with (first
       | (at_builtin;refine qi _ rfl _ _ _ rfl 67 iB _ 1 24 Agq hi2 hz2 hs2 hy2 rfl (by decide) o2 (2,0) _ _ _ rfl rn ⟨wo.1.size,0,none⟩ 1 1 [.slice jQ n1 gP] rfl rfl (zj jn) ue dX hmb ?_;intro v' w4 hown hst;obtain⟨pa',cp',rfl⟩:=hown.AS)
       | fail)
      obtain⟨f1,f2⟩:=HFin.out _ _ _ hown hst;go_roundw
      case rel=>exact⟨t+1,_,by simp,by omega,by omega,f1,f2⟩
      case measure=>simp[intOf];omega
  ·-- all threads are done
   have hT:(raw.take t).map ni=FA raw:=by
    unfold FA;have e:raw.take t=raw.take 4:=by
     by_cases h:t=4
     ·rw[h]
     ·rw[Ad (by omega),Ad (by omega)]
    rw[e]
   have hF2:=hF.B5 (o':=B5 o (2,0) (1,0)) (fun k hk=>by rw[m5 (by rw[hk];simp)];exact hk) (1,0) (fun k hk=>VU hk)
   have hK2:=hK.B5 (a:=(2,0)) (b:=(1,0)) (by simp)
   rw[hT]at hF2;have uV:=Qa (show 0<t->Uz raw w (O (.slice pa0 t fE)) wo from fun h0=>⟨_,_,rfl,by rw[HE.out.2.1 (HE.out.2.2.2 (by omega))];exact hF2,hK2⟩)
   have mJ:=Qa (show t=0->Uz raw w (O (Ah (some ⟨wo.1.size,0,none⟩) 1 1)) (wo.alloc (.cells #[Ah none 0 0] 67)) from fun h0=>by
    refine⟨_,ext (B5 o (2,0) (1,0)) wo.1.size (1,0),rfl,?_,?_⟩
    ·rw[HE.out.1 (HE.out.2.2.1 (by omega))]
     refine⟨by simp,[Ah none 0 0],rfl,⟨⟨rfl,.inr ⟨wo.1.size,1,#[Ah none 0 0],rfl,Nat.zero_le _,Al.new _ _ _,Qk _,by simp[maxLen],rfl,rfl⟩⟩,fun k hk=>?_⟩,fun j bs hj=>?_⟩
     ·have:wo.1.size=k:=by simpa [Value.ownBlock] using hk
      subst this;exact qz (Qk _)
     ·have:j=0:=by
       have:=(Qc.1 hj).1;simpa using this
      subst this;simp at hj;subst hj;exact⟨_,rfl,FB.nil _ _ _⟩
    ·refine⟨qc hK2.b _,fun b hb=>?_⟩
     rw[qr (Qn hb hK2.b.size)];exact hK2.z b hb)
   clear hF hK hF2 hK2 hT hF0 hv0 fC rV hn0;by_cases h0:t=0
   ·subst h0
    have hl0:¬((0:Int)<(raw.length:Int)):=by omega
    have HF0:=Qa (mJ.out rfl);clear uV mJ hstop;go_wp2_with fail;go_ret;exact HF0.out
   ·have tP:(0:Int)<(t:Int):=by omega
    have tN:(((t:Int))==0)=false:=by rw[Qh];omega
    have HF1:=Qa (uV.out (by omega))
    rcases (show (t<raw.length/\t=4)\/raw.length=t by omega) with ⟨hlt,rfl⟩|hle
    ·have iL:(4:Int)<(raw.length:Int):=by omega
     clear hstop uV mJ;go_wp2_with fail;go_ret;exact HF1.out
    ·have iL:¬((t:Int)<(raw.length:Int)):=by omega
     have HLE:=Qa hle;clear hstop hle uV mJ;go_wp2_with fail;go_ret;exact HF1.out
