import Derived.Test.YteehgedabdchcaaGreatKak
set_option linter.all false
set_option maxRecDepth 1000000
set_option maxHeartbeats 0
open Go renaming World->Aa,Calls->Ab,Value->Ac
open Go.RowKit renaming Below->Ae
open Go.Value renaming int->I,pointer->Ag,tuple->Aj,agg->Ak
open Go.IntKind renaming i64->Z
open Go.Ending renaming returned->O
namespace Go.Proofs.YteehgedabdchcaaGreat
open Go.RowKit Hp
attribute [local go_sem ↓] Go.wp_at_zero Go.wp_at_succ
def qmo (sz t:Nat):CW (1+sz) sz t=Ak #[I Z (1+(sz:Int)),I Z sz,I Z t]:=by
 show Value.agg #[I Z ((1+sz:Nat):Int),_,_]=_;rw[show ((1+sz:Nat):Int)=1+(sz:Int) from by omega]
def MN {w:Aa} {l:A7} {vc vo vw vf:Ac} {sz tp eT dG Cd dE p rd L:Nat} {iC:Bool} {f':Nat->Nat} (hb:Al w l.h #[Ag (some ⟨l.a,0,none⟩),I Z 1,I Z sz,I Z eT,I Z (1+(sz:Int)),I Z sz,I Z tp,vo,vc,I Z 1,.bool iC,I Z dG,I Z Cd,I Z dE,vw,vf] 185)
  (hth:Ab Tryz.prog 172 #[Ag (some ⟨l.h,0,none⟩),I Z p] w fun e w'=>e=O (.bool true)/\Ae w.1.size w w')
  (hcp:∀ W,Ae w.1.size w W->Ab Tryz.prog 235 #[Ag (some ⟨l.a,0,none⟩),I Z p,Ak #[I Z (1+(sz:Int)),I Z sz,I Z tp]] W fun e w'=>e=O (Aj #[Ak #[I Z (1+(sz:Int)),I Z sz,I Z ((tp+rd:Nat):Int)],I Z tp,I Z 0])/\Turned W w' l.a l.wd L f')
  (hne:l.h≠l.wd) (hwd:l.wd<w.1.size) (hla:l.a<w.1.size) (hrd:1<=rd/\rd<=dG) (hbd:(1+sz)<=tp/\sz<=16384/\tp+rd<=(1+sz)+sz/\dG<=65536)
  (Q:Aa->Prop) (htk:∀ W:Aa,BB W l.a l.wd L f'->Wr l.wd w W->Al (W.setCell ⟨l.h,11,none⟩ (I Z ((dG-rd:Nat):Int))) l.h #[Ag (some ⟨l.a,0,none⟩),I Z 1,I Z sz,I Z eT,I Z (1+(sz:Int)),I Z sz,I Z tp,vo,vc,I Z 1,.bool iC,I Z ((dG-rd:Nat):Int),I Z Cd,I Z dE,vw,vf] 185 ->
   Ab Tryz.prog 230 #[Ag (some ⟨l.h,0,none⟩),Ak #[I Z (1+(sz:Int)),I Z sz,I Z ((tp+rd:Nat):Int)],I Z tp] (W.setCell ⟨l.h,11,none⟩ (I Z ((dG-rd:Nat):Int))) fun e w'=>e=O (Aj #[])/\Q w') :
  Ab Tryz.prog 173 #[Ag (some ⟨l.h,0,none⟩),I Z p] w fun e w'=>e=O (I Z tp)/\Q w':=by
 obtain⟨tr,htr⟩:=Ja0 (tp+rd);rw[<-htr]at hcp htk hbd;have ib:=Qa (fun W=>ur (b:=(1+sz)) (s:=sz) (t:=tr) ⟨by omega,by omega,by omega,by omega⟩ W)
 have iK:=Qa (fun W=>ur (b:=(1+sz)) (s:=sz) (t:=tp) ⟨by omega,by omega,by omega,by omega⟩ W)
 obtain⟨ua,hua⟩:=Ja0 (tr-(1+sz));obtain⟨ub,hub⟩:=Ja0 (tp-(1+sz));obtain⟨sG,how⟩:=Ja0 (dG-rd);have e1:IntKind.i64.wrap ((ua:Int)-(ub:Int))=(rd:Int):=by rw[IntWalk.i64_in _ (by omega)];omega
 have e2:IntKind.i64.wrap ((dG:Int)-(rd:Int))=(sG:Int):=by rw[IntWalk.i64_in _ (by omega)];omega
 rw[<-hua]at ib;rw[<-hub]at iK;rw[<-how]at htk;have ib:=Qa (show ∀ W:Aa,Ab Tryz.prog 188 #[Ak #[I Z (1+(sz:Int)),I Z sz,I Z tr]] W fun e w'=>e=O (I Z ua)/\Ae W.1.size W w' from by exact fun W=>by have:=ib.out W;rw[qmo]at this;exact this)
 have iK:=Qa (show ∀ W:Aa,Ab Tryz.prog 188 #[Ak #[I Z (1+(sz:Int)),I Z sz,I Z tp]] W fun e w'=>e=O (I Z ub)/\Ae W.1.size W w' from by exact fun W=>by have:=iK.out W;rw[qmo]at this;exact this)
 have nt1:((tr:Int)==(tp:Int))=false:=by rw[Qh];omega
 have nt2:((tr:Int) != (tp:Int))=true:=by rw[bne_iff_ne];omega
 have HT:=Qa hth;have HC:=Qa hcp;have HK:=Qa htk;have hlh:=hb.lt;clear hth hcp htk htr hua hub how hrd hbd;go_enter Tryz.func173,Tryz.ntmps173;go_wp2_with fail;refine HT.out.mono ?_
 rintro e w1 ⟨rfl,hb1⟩
 have jH:=hb.below hb1 hb.lt;have c:=jH.cell;have s1:=jH.lt;go_upto_region 3 with fail;have k9:=c 9;have k1:=c 4;have k2:=c 5;have k3:=c 6;simp at k9 k1 k2 k3;have hnw:=World.new_ne w1 ⟨l.h,9,none⟩ k9;go_region_held3 (fun w'=>w'.cell? ⟨l.h,9,none⟩=some (I Z 1)/\w'.cell? ⟨l.h,4,none⟩=some (I Z (1+(sz:Int)))/\w'.cell? ⟨l.h,5,none⟩=some (I Z sz)/\w'.cell? ⟨l.h,6,none⟩=some (I Z tp)) (go_keep) (fail)
 clear c s1 k9 k1 k2 k3 hnw HT;obtain⟨W2,hW2⟩:=Ja0 ((w1.alloc (.cells #[I Z (1+(sz:Int)),I Z sz,I Z tp] 181)).drew);have eB:Ae w.1.size w W2:=by rw[hW2];exact qf (qc hb1 _)
 have jK:Al W2 l.h #[Ag (some ⟨l.a,0,none⟩),I Z 1,I Z sz,I Z eT,I Z (1+(sz:Int)),I Z sz,I Z tp,vo,vc,I Z 1,.bool iC,I Z dG,I Z Cd,I Z dE,vw,vf] 185:=by rw[hW2];exact qj (jH.alloc _)
 have dF:Al W2 w1.1.size #[I Z (1+(sz:Int)),I Z sz,I Z tp] 181:=by rw[hW2];exact qj (Al.new _ _ _)
 have nS:w.1.size<=w1.1.size:=hb1.size;rw[<-hW2];obtain⟨bS,hbS⟩:=Ja0 w1.1.size;rw[<-hbS]at dF nS ⊢;clear hW2 hbS hb1 jH hb;have cH:=jK.cell;have cS:=dF.cell;have sH:=jK.lt;have sS:=dF.lt;go_upto_region 4 with fail;go_cut [6,7,8] (fun t6 t7 t8 wx=>∃ Bx,t6=Ag (some ⟨Bx,0,none⟩)/\t7=I Z tp/\t8=I Z 0/\Al wx Bx #[I Z (1+(sz:Int)),I Z sz,I Z tr] 181/\W2.1.size<=Bx/\BB wx l.a l.wd L f'/\Wr l.wd W2 wx)
 case first =>
  have Aoj:l.a<W2.1.size:=Qn hla eB.size;have hwd2:l.wd<W2.1.size:=Qn hwd eB.size;go_region_with (first|(go_at_call 235;refine (HC.out _ (by first|exact qf eB|exact qf (qc eB _)|exact qc (qf eB) _)).mono ?_;rintro e w4 ⟨rfl,oJ⟩;try (have dL:Al w4 W2.1.size #[I Z 0,I Z 0,I Z 0] 181:=Al.wr (qj (Al.new W2 _ _)) oJ.2 (by omega);have cB4:=dL.cell;have zB4:=dL.free;have sB4:=dL.lt))|fail)
  all_goals
   go_wp2_with fail;go_meet;first
    | exact⟨_,rfl,rfl,rfl,Al.new _ _ _,oJ.2.size,oJ.1.below (qc (qd _) _),Wr.Bz oJ.2.DY (qc (qd _) _)⟩
    | exact⟨W2.1.size,rfl,rfl,rfl,by simpa using ((dL.set 0 _).set 1 _).set 2 _,Qk _,((oJ.1.BA (by omega) (by omega) _ _).BA (by omega) (by omega) _ _).BA (by omega) (by omega) _ _,
      (((Wr.of_below (qc (qd W2) _)).trans oJ.2.DY).BA (Qk _) _ _ |>.BA (Qk _) _ _).BA (Qk _) _ _⟩
 case rest =>
  obtain⟨Bx,rfl,rfl,rfl,jB,hBx,hWd,kF⟩:=hcut;have jO:=jK.wr kF hne;have gL:=dF.wr kF (by omega)
  have HWr:=Qa ((Wr.of_below eB).trans kF);clear jK dF cH cS HC eB kF;have cB:=jB.cell;have cS:=gL.cell;have sB:=jB.lt;have sS:=gL.lt;have sH:=jO.lt;have Abb:Bx≠l.h:=by omega
  have Aqj:bS≠l.h:=by omega
  have HJ:=Qa (fun (W:Aa) (hW:Ae wc.1.size wc W)=>show W.cell? ⟨l.h,11,none⟩=some (I Z dG)/\W.cell? ⟨Bx,0,none⟩=some (I Z (1+(sz:Int)))/\W.cell? ⟨Bx,1,none⟩=some (I Z sz)/\W.cell? ⟨Bx,2,none⟩=some (I Z tr)/\W.cell? ⟨bS,0,none⟩=some (I Z (1+(sz:Int)))/\W.cell? ⟨bS,1,none⟩=some (I Z sz)/\W.cell? ⟨bS,2,none⟩=some (I Z tp) from ⟨(jO.below hW sH).cell 11,(jB.below hW sB).cell 0,(jB.below hW sB).cell 1,(jB.below hW sB).cell 2,(gL.below hW sS).cell 0,(gL.below hW sS).cell 1,(gL.below hW sS).cell 2⟩);have nX:=Qa jO;have k11:wc.cell? ⟨l.h,11,none⟩=some (I Z dG):=by rw[jO.cell];rfl
  have HB0:=Qa (show Ae wc.1.size wc wc.drew from qf (qd wc));go_upto_region 8 with fail;go_region_with (first
   | (go_at_call 188;with_reducible refine (ib.out _).mono ?_;rintro e w5 ⟨rfl,hb5⟩;have kb:=HB0.out.trans (hb5.mono HB0.out.size);obtain⟨y0,y1,y2,y3,y4,y5,y6⟩:=HJ.out _ kb)
   | (go_at_call 188;with_reducible refine (iK.out _).mono ?_;rintro e w6 ⟨rfl,hb6⟩;have kc:=kb.trans (hb6.mono kb.size);obtain⟨z0,z1,z2,z3,z4,z5,z6⟩:=HJ.out _ kc;have zf:=(nX.out.below kc nX.out.lt).free;have zl:=(nX.out.below kc nX.out.lt).lt)
   | fail)
  all_goals
   have rH:=(show BB wc l.a l.wd L f' from hWd).below kc;have rJ:=HWr.out.Bz kc;have pJ:=(nX.out.below kc nX.out.lt).set 11 (I Z (sG:Int));simp at pJ;have HKK:=Qa (HK.out w6 rH rJ pJ);have cB6:=((show Al wc Bx #[I Z (1+(sz:Int)),I Z sz,I Z tr] 181 from jB).below kc jB.lt);have cB7:=(cB6.Am (a:=⟨l.h,11,none⟩) Abb (I Z (sG:Int))).cell;clear rH rJ pJ cB6 y0 y1 y2 y3 y4 y5 y6 z0 z1 z2 z3 z4 z5 z6 zf zl hb5 hb6 kb kc cB cS k11;go_wp2_with fail;refine HKK.out.mono ?_;rintro e w7 ⟨rfl,hq⟩;go_wp2_with fail;go_ret;exact⟨rfl,hq⟩
