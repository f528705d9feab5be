import Derived.Test.YteehgedabdchcaaGreatKag
set_option linter.all false
set_option maxRecDepth 1000000
set_option maxHeartbeats 0
open Go renaming World->Aa,Calls->Ab,Value->Ac
open Go.RowKit renaming Below->Ae
open Go.Value renaming int->I,pointer->Ah,tuple->Ak,agg->Al
open Go.IntKind renaming i64->Z
open Go.Ending renaming returned->O
namespace Go.Proofs.YteehgedabdchcaaGreat
open Go.RowKit Hp
attribute [local go_sem ↓] Go.wp_at_zero Go.wp_at_succ
def XL (sz t:Nat):DG (1+sz) sz t=Al #[I Z (1+(sz:Int)),sz,t]:=by
 show Value.agg #[I Z ((1+sz:Nat):Int),_,_]=_;rw[show ((1+sz:Nat):Int)=1+(sz:Int) from by omega]
def Mk {w:Aa} {l:Bo} {vc vo vw vf:Ac} {sz tp eT dK CE dH p rd L:Nat} {gV:Bool} {f':Nat->Nat} (hb:An w l.h #[Ah (some ⟨l.a,0,none⟩),I Z 1,sz,eT,I Z (1+(sz:Int)),sz,tp,vo,vc,I Z 1,.bool gV,dK,I Z CE,dH,vw,vf] 185)
  (hth:Ab Tryz.prog 172 #[Ah (some ⟨l.h,0,none⟩),p] w fun e w'=>e=O (.bool true)/\Ae w.1.size w w')
  (hcp:∀ W,Ae w.1.size w W->Ab Tryz.prog 235 #[Ah (some ⟨l.a,0,none⟩),p,Al #[I Z (1+(sz:Int)),sz,tp]] W fun e w'=>e=O (Ak #[Al #[I Z (1+(sz:Int)),sz,I Z ((tp+rd:Nat):Int)],tp,I Z 0])/\Turned W w' l.a l.wd L f')
  (hne:l.h≠l.wd) (hwd:l.wd<w.1.size) (hla:l.a<w.1.size) (hrd:1<=rd/\rd<=dK) (hbd:(1+sz)<=tp/\sz<=16384/\tp+rd<=(1+sz)+sz/\dK<=65536)
  (Q:Aa->Prop) (htk:∀ W:Aa,B6 W l.a l.wd L f'->Wr l.wd w W->An (W.setCell ⟨l.h,11,none⟩ (I Z ((dK-rd:Nat):Int))) l.h #[Ah (some ⟨l.a,0,none⟩),I Z 1,sz,eT,I Z (1+(sz:Int)),sz,tp,vo,vc,I Z 1,.bool gV,I Z ((dK-rd:Nat):Int),I Z CE,dH,vw,vf] 185 ->
   Ab Tryz.prog 230 #[Ah (some ⟨l.h,0,none⟩),Al #[I Z (1+(sz:Int)),sz,I Z ((tp+rd:Nat):Int)],tp] (W.setCell ⟨l.h,11,none⟩ (I Z ((dK-rd:Nat):Int))) fun e w'=>e=O (Ak #[])/\Q w') :
  Ab Tryz.prog 173 #[Ah (some ⟨l.h,0,none⟩),p] w fun e w'=>e=O tp/\Q w':=by
 obtain⟨tr,htr⟩:=Ja0 (tp+rd);rw[<-htr]at hcp htk hbd;have nW:=Qa (fun W=>y9 (b:=(1+sz)) (s:=sz) (t:=tr) ⟨by omega,by omega,by omega,by omega⟩ W)
 have rU:=Qa (fun W=>y9 (b:=(1+sz)) (s:=sz) (t:=tp) ⟨by omega,by omega,by omega,by omega⟩ W)
 obtain⟨ua,hua⟩:=Ja0 (tr-(1+sz));obtain⟨ub,hub⟩:=Ja0 (tp-(1+sz));obtain⟨qB,how⟩:=Ja0 (dK-rd);have e1:IntKind.i64.wrap ((ua:Int)-(ub:Int))=(rd:Int):=by rw[IntWalk.i64_in _ (by omega)];omega
 have e2:IntKind.i64.wrap ((dK:Int)-(rd:Int))=(qB:Int):=by rw[IntWalk.i64_in _ (by omega)];omega
 rw[<-hua]at nW;rw[<-hub]at rU;rw[<-how]at htk;have nW:=Qa (show ∀ W:Aa,Ab Tryz.prog 188 #[Al #[I Z (1+(sz:Int)),sz,tr]] W fun e w'=>e=O ua/\Ae W.1.size W w' from by exact fun W=>by have:=nW.o W;rw[XL]at this;exact this)
 have rU:=Qa (show ∀ W:Aa,Ab Tryz.prog 188 #[Al #[I Z (1+(sz:Int)),sz,tp]] W fun e w'=>e=O ub/\Ae W.1.size W w' from by exact fun W=>by have:=rU.o W;rw[XL]at this;exact this)
 have nt1:((tr:Int)==(tp:Int))=false:=by rw[Qh];omega
 have nt2:((tr:Int) != (tp:Int))=true:=by rw[bne_iff_ne];omega
 have HT:=Qa hth;have HC:=Qa hcp;have HK:=Qa htk;have hlh:=hb.lt;clear hth hcp htk htr hua hub how hrd hbd;go_enter Tryz.func173,Tryz.ntmps173;go_wp2_with fail;refine HT.o.mono ?_
 rintro e w1 ⟨rfl,hb1⟩
 have jH:=hb.below hb1 hb.lt;have c:=jH.cell;have s1:=jH.lt;go_upto_region 3 with fail;have k9:=c 9;have k1:=c 4;have k2:=c 5;have k3:=c 6;simp at k9 k1 k2 k3;have hnw:=World.new_ne w1 ⟨l.h,9,none⟩ k9;go_region_held3 (fun w'=>w'.cell? ⟨l.h,9,none⟩=some (I Z 1)/\w'.cell? ⟨l.h,4,none⟩=some (I Z (1+(sz:Int)))/\w'.cell? ⟨l.h,5,none⟩=some (I Z sz)/\w'.cell? ⟨l.h,6,none⟩=some (I Z tp)) (go_keep) (fail)
 clear c s1 k9 k1 k2 k3 hnw HT;obtain⟨W2,hW2⟩:=Ja0 ((w1.alloc (.cells #[I Z (1+(sz:Int)),sz,tp] 181)).drew);have eB:Ae w.1.size w W2:=by rw[hW2];exact qe (qa hb1 _)
 have iP:An W2 l.h #[Ah (some ⟨l.a,0,none⟩),I Z 1,sz,eT,I Z (1+(sz:Int)),sz,tp,vo,vc,I Z 1,.bool gV,dK,I Z CE,dH,vw,vf] 185:=by rw[hW2];exact qi (jH.alloc _)
 have dJ:An W2 w1.1.size #[I Z (1+(sz:Int)),sz,tp] 181:=by rw[hW2];exact qi (An.new _ _ _)
 have nS:w.1.size<=w1.1.size:=hb1.size;rw[<-hW2];obtain⟨bS,hbS⟩:=Ja0 w1.1.size;rw[<-hbS]at dJ nS ⊢;clear hW2 hbS hb1 jH hb;have cH:=iP.cell;have cS:=dJ.cell;have sH:=iP.lt;have sS:=dJ.lt;go_upto_region 4 with fail;go_cut [6,7,8] (fun t6 t7 t8 wx=>∃ Bx,t6=Ah (some ⟨Bx,0,none⟩)/\t7=I Z tp/\t8=I Z 0/\An wx Bx #[I Z (1+(sz:Int)),sz,tr] 181/\W2.1.size<=Bx/\B6 wx l.a l.wd L f'/\Wr l.wd W2 wx)
 case first =>
  have Akx:l.a<W2.1.size:=Qn hla eB.size;have hwd2:l.wd<W2.1.size:=Qn hwd eB.size;go_region_with (first|(go_at_call 235;refine (HC.o _ (by first|exact qe eB|exact qe (qa eB _)|exact qa (qe eB) _)).mono ?_;rintro e w4 ⟨rfl,mV⟩;try (have dP:An w4 W2.1.size #[I Z 0,I Z 0,I Z 0] 181:=An.wr (qi (An.new W2 _ _)) mV.2 (by omega);have yR:=dP.cell;have zB4:=dP.free;have sB4:=dP.lt))|fail)
  all_goals
   go_wp2_with fail;go_meet;first
    | exact⟨_,rfl,rfl,rfl,An.new _ _ _,mV.2.size,mV.1.below (qa (qc _) _),Wr.B7 mV.2.Ey (qa (qc _) _)⟩
    | exact⟨W2.1.size,rfl,rfl,rfl,by simpa using ((dP.set 0 _).set 1 _).set 2 _,Qk _,((mV.1.B8 (by omega) (by omega) _ _).B8 (by omega) (by omega) _ _).B8 (by omega) (by omega) _ _,
      (((Wr.of_below (qa (qc W2) _)).trans mV.2.Ey).B8 (Qk _) _ _ |>.B8 (Qk _) _ _).B8 (Qk _) _ _⟩
 case rest =>
  obtain⟨Bx,rfl,rfl,rfl,jB,hBx,hWd,iX⟩:=hcut;have iR:=iP.wr iX hne;have fV:=dJ.wr iX (by omega)
  have uS:=Qa ((Wr.of_below eB).trans iX);clear iP dJ cH cS HC eB iX;have cB:=jB.cell;have cS:=fV.cell;have sB:=jB.lt;have sS:=fV.lt;have sH:=iR.lt;have yD:Bx≠l.h:=by omega
  have Amw:bS≠l.h:=by omega
  have HJ:=Qa (fun (W:Aa) (hW:Ae wc.1.size wc W)=>show W.cell? ⟨l.h,11,none⟩=some (I Z dK)/\W.cell? ⟨Bx,0,none⟩=some (I Z (1+(sz:Int)))/\W.cell? ⟨Bx,1,none⟩=some (I Z sz)/\W.cell? ⟨Bx,2,none⟩=some (I Z tr)/\W.cell? ⟨bS,0,none⟩=some (I Z (1+(sz:Int)))/\W.cell? ⟨bS,1,none⟩=some (I Z sz)/\W.cell? ⟨bS,2,none⟩=some (I Z tp) from ⟨(iR.below hW sH).cell 11,(jB.below hW sB).cell 0,(jB.below hW sB).cell 1,(jB.below hW sB).cell 2,(fV.below hW sS).cell 0,(fV.below hW sS).cell 1,(fV.below hW sS).cell 2⟩);have mG:=Qa iR;have k11:wc.cell? ⟨l.h,11,none⟩=some (I Z dK):=by rw[iR.cell];rfl
  have HB0:=Qa (show Ae wc.1.size wc wc.drew from qe (qc wc));go_upto_region 8 with fail;go_region_with (first
   | (go_at_call 188;with_reducible refine (nW.o _).mono ?_;rintro e w5 ⟨rfl,hb5⟩;have kb:=HB0.o.trans (hb5.mono HB0.o.size);obtain⟨y0,y1,y2,y3,y4,y5,y6⟩:=HJ.o _ kb)
   | (go_at_call 188;with_reducible refine (rU.o _).mono ?_;rintro e w6 ⟨rfl,hb6⟩;have kc:=kb.trans (hb6.mono kb.size);obtain⟨z0,z1,z2,z3,z4,z5,z6⟩:=HJ.o _ kc;have zf:=(mG.o.below kc mG.o.lt).free;have zl:=(mG.o.below kc mG.o.lt).lt)
   | fail)
  all_goals
   have pE:=(show B6 wc l.a l.wd L f' from hWd).below kc;have pF:=uS.o.B7 kc;have nJ:=(mG.o.below kc mG.o.lt).set 11 (I Z (qB:Int));simp at nJ;have HKK:=Qa (HK.o w6 pE pF nJ);have cB6:=((show An wc Bx #[I Z (1+(sz:Int)),sz,tr] 181 from jB).below kc jB.lt);have cB7:=(cB6.Ao (a:=⟨l.h,11,none⟩) yD (I Z (qB:Int))).cell;clear pE pF nJ cB6 y0 y1 y2 y3 y4 y5 y6 z0 z1 z2 z3 z4 z5 z6 zf zl hb5 hb6 kb kc cB cS k11;go_wp2_with fail;refine HKK.o.mono ?_;rintro e w7 ⟨rfl,hq⟩;go_wp2_with fail;go_ret;exact⟨rfl,hq⟩
