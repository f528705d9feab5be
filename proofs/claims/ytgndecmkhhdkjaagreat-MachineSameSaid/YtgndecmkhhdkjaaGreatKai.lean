import Derived.Test.YtgndecmkhhdkjaaGreatKag
set_option linter.all false
set_option maxRecDepth 1000000
set_option maxHeartbeats 0
open Go renaming World->Aa,Calls->Ab,Value->Ac
open Go.RowKit renaming Below->Ae
open Go.Value renaming int->I,pointer->Ah,tuple->Ak,agg->Al
open Go.IntKind renaming i64->Z
open Go.Ending renaming returned->O
namespace Go.Proofs.YtgndecmkhhdkjaaGreat
open Go.RowKit Hp
attribute [local go_sem ↓] Go.wp_at_zero Go.wp_at_succ
def YB (sz t:Nat):DN (1+sz) sz t=Al #[I Z (1+(sz:Int)),sz,t]:=by
 show Value.agg #[I Z ((1+sz:Nat):Int),_,_]=_;rw[show ((1+sz:Nat):Int)=1+(sz:Int) from by omega]
def My {w:Aa} {l:Bn} {vc vo vw vf:Ac} {sz tp eP dF CE dB p rd L:Nat} {gN:Bool} {f':Nat->Nat} (hb:An w l.h #[Ah (some ⟨l.a,0,none⟩),I Z 1,sz,eP,I Z (1+(sz:Int)),sz,tp,vo,vc,I Z 1,gN,dF,I Z CE,dB,vw,vf] 141)
  (hth:Ab Tryz.prog 185 #[Ah (some ⟨l.h,0,none⟩),p] w fun e w'=>e=O (.bool true)/\Ae w w w')
  (hcp:∀ W,Ae w w W->Ab Tryz.prog 186 #[Ah (some ⟨l.a,0,none⟩),p,Al #[I Z (1+(sz:Int)),sz,tp]] W fun e w'=>e=O (Ak #[Al #[I Z (1+(sz:Int)),sz,I Z ((tp+rd:Nat):Int)],tp,()])/\Turned W w' l.a l.wd L f')
  (hne:l.h≠l.wd) (hwd:l.wd<w.1.size) (hla:l.a<w.1.size) (hrd:1<=rd/\rd<=dF) (hbd:(1+sz)<=tp/\sz<=16384/\tp+rd<=(1+sz)+sz/\dF<=65536)
  (Q:Aa->Prop) (htk:∀ W:Aa,BR W l.a l.wd L f'->Wr l.wd w W->An (W.setCell ⟨l.h,11,none⟩ (I Z ((dF-rd:Nat):Int))) l.h #[Ah (some ⟨l.a,0,none⟩),I Z 1,sz,eP,I Z (1+(sz:Int)),sz,tp,vo,vc,I Z 1,gN,I Z ((dF-rd:Nat):Int),I Z CE,dB,vw,vf] 141 ->
   Ab Tryz.prog 187 #[Ah (some ⟨l.h,0,none⟩),Al #[I Z (1+(sz:Int)),sz,I Z ((tp+rd:Nat):Int)],tp] (W.setCell ⟨l.h,11,none⟩ (I Z ((dF-rd:Nat):Int))) fun e w'=>e=O (Ak #[])/\Q w') :
  Ab Tryz.prog 122 #[Ah (some ⟨l.h,0,none⟩),p] w fun e w'=>e=O tp/\Q w':=by
 obtain⟨tr,htr⟩:=Ja0 (tp+rd);rw[<-htr]at hcp htk hbd;have nT:=Qa (fun W=>ur (b:=(1+sz)) (s:=sz) (t:=tr) ⟨by omega,by omega,by omega,by omega⟩ W)
 have rH:=Qa (fun W=>ur (b:=(1+sz)) (s:=sz) (t:=tp) ⟨by omega,by omega,by omega,by omega⟩ W)
 obtain⟨ua,hua⟩:=Ja0 (tr-(1+sz));obtain⟨ub,hub⟩:=Ja0 (tp-(1+sz));obtain⟨pW,how⟩:=Ja0 (dF-rd);have e1:IntKind.i64.wrap ((ua:Int)-(ub:Int))=(rd:Int):=by rw[IntWalk.i64_in _ (by omega)];omega
 have e2:IntKind.i64.wrap ((dF:Int)-(rd:Int))=(pW:Int):=by rw[IntWalk.i64_in _ (by omega)];omega
 rw[<-hua]at nT;rw[<-hub]at rH;rw[<-how]at htk;have nT:=Qa (show ∀ W:Aa,Ab Tryz.prog 119 #[Al #[I Z (1+(sz:Int)),sz,tr]] W fun e w'=>e=O ua/\Ae W W w' from by exact fun W=>by have:=nT.o W;rw[YB]at this;exact this)
 have rH:=Qa (show ∀ W:Aa,Ab Tryz.prog 119 #[Al #[I Z (1+(sz:Int)),sz,tp]] W fun e w'=>e=O ub/\Ae W W w' from by exact fun W=>by have:=rH.o W;rw[YB]at this;exact this)
 have nt1:((tr:Int)==(tp:Int))=false:=by rw[Qh];omega
 have nt2:((tr:Int) != (tp:Int))=true:=by rw[bne_iff_ne];omega
 have HT:=Qa hth;have HC:=Qa hcp;have HK:=Qa htk;have hlh:=hb.lt;clear hth hcp htk htr hua hub how hrd hbd;go_enter Tryz.func122,Tryz.ntmps122;go_wp2_with fail;refine HT.o.mono ?_
 rintro e w1 ⟨rfl,hb1⟩
 have jH:=hb.below hb1 hb.lt;have c:=jH.cell;have s1:=jH.lt;go_upto_region 3 with fail;have k9:=c 9;have k1:=c 4;have k2:=c 5;have k3:=c 6;simp at k9 k1 k2 k3;have hnw:=World.new_ne w1 ⟨l.h,9,none⟩ k9;go_region_held3 (fun w'=>w'.cell? ⟨l.h,9,none⟩=some (I Z 1)/\w'.cell? ⟨l.h,4,none⟩=some (I Z (1+(sz:Int)))/\w'.cell? ⟨l.h,5,none⟩=some (I Z sz)/\w'.cell? ⟨l.h,6,none⟩=some (I Z tp)) (go_keep) (fail)
 clear c s1 k9 k1 k2 k3 hnw HT;obtain⟨W2,hW2⟩:=Ja0 ((w1.alloc (.cells #[I Z (1+(sz:Int)),sz,tp] 135)).drew);have eu:Ae w w W2:=by rw[hW2];exact qf (qc hb1 _)
 have iK:An W2 l.h #[Ah (some ⟨l.a,0,none⟩),I Z 1,sz,eP,I Z (1+(sz:Int)),sz,tp,vo,vc,I Z 1,gN,dF,I Z CE,dB,vw,vf] 141:=by rw[hW2];exact qj (jH.alloc _)
 have dC:An W2 w1 #[I Z (1+(sz:Int)),sz,tp] 135:=by rw[hW2];exact qj (An.new _ _ _)
 have nS:w.1.size<=w1.1.size:=hb1.size;rw[<-hW2];obtain⟨bS,hbS⟩:=Ja0 w1.1.size;rw[<-hbS]at dC nS ⊢;clear hW2 hbS hb1 jH hb;have cH:=iK.cell;have cS:=dC.cell;have sH:=iK.lt;have sS:=dC.lt;go_upto_region 4 with fail;go_cut [6,7,8] (fun t6 t7 t8 wx=>∃ Bx,t6=Ah (some ⟨Bx,0,none⟩)/\t7=I Z tp/\t8=I Z 0/\An wx Bx #[I Z (1+(sz:Int)),sz,tr] 135/\W2.1.size<=Bx/\BR wx l.a l.wd L f'/\Wr l.wd W2 wx)
 case first =>
  have Alq:l.a<W2.1.size:=Qn hla eu.size;have hwd2:l.wd<W2.1.size:=Qn hwd eu.size;go_region_with (first|(go_at_call 186;refine (HC.o _ (by first|exact qf eu|exact qf (qc eu _)|exact qc (qf eu) _)).mono ?_;rintro e w4 ⟨rfl,mI⟩;try (have dJ:An w4 W2 #[(),(),()] 135:=An.wr (qj (An.new W2 _ _)) mI.2 (by omega);have yQ:=dJ.cell;have zB4:=dJ.free;have sB4:=dJ.lt))|fail)
  all_goals
   go_wp2_with fail;go_meet;first
    | exact⟨_,rfl,rfl,rfl,An.new _ _ _,mI.2.size,mI.1.below (qc (qd _) _),Wr.Cb mI.2.EG (qc (qd _) _)⟩
    | exact⟨W2.1.size,rfl,rfl,rfl,by simpa using ((dJ.set 0 _).set 1 _).set 2 _,Qk _,((mI.1.Cc (by omega) (by omega) _ _).Cc (by omega) (by omega) _ _).Cc (by omega) (by omega) _ _,
      (((Wr.of_below (qc (qd W2) _)).trans mI.2.EG).Cc (Qk _) _ _ |>.Cc (Qk _) _ _).Cc (Qk _) _ _⟩
 case rest =>
  obtain⟨Bx,rfl,rfl,rfl,jB,hBx,hWd,iV⟩:=hcut;have iO:=iK.wr iV hne;have fP:=dC.wr iV (by omega)
  have HWr:=Qa ((Wr.of_below eu).trans iV);clear iK dC cH cS HC eu iV;have cB:=jB.cell;have cS:=fP.cell;have sB:=jB.lt;have sS:=fP.lt;have sH:=iO.lt;have xZ:Bx≠l.h:=by omega
  have Ano:bS≠l.h:=by omega
  have HJ:=Qa (fun (W:Aa) (hW:Ae wc wc W)=>show W.cell? ⟨l.h,11,none⟩=some (I Z dF)/\W.cell? ⟨Bx,0,none⟩=some (I Z (1+(sz:Int)))/\W.cell? ⟨Bx,1,none⟩=some (I Z sz)/\W.cell? ⟨Bx,2,none⟩=some (I Z tr)/\W.cell? ⟨bS,0,none⟩=some (I Z (1+(sz:Int)))/\W.cell? ⟨bS,1,none⟩=some (I Z sz)/\W.cell? ⟨bS,2,none⟩=some (I Z tp) from ⟨(iO.below hW sH).cell 11,(jB.below hW sB).cell 0,(jB.below hW sB).cell 1,(jB.below hW sB).cell 2,(fP.below hW sS).cell 0,(fP.below hW sS).cell 1,(fP.below hW sS).cell 2⟩);have lW:=Qa iO;have k11:wc.cell? ⟨l.h,11,none⟩=some (I Z dF):=by rw[iO.cell];rfl
  have HB0:=Qa (show Ae wc wc wc.drew from qf (qd wc));go_upto_region 8 with fail;go_region_with (first
   | (go_at_call 119;with_reducible refine (nT.o _).mono ?_;rintro e w5 ⟨rfl,hb5⟩;have kb:=HB0.o.trans (hb5.mono HB0.o.size);obtain⟨y0,y1,y2,y3,y4,y5,y6⟩:=HJ.o _ kb)
   | (go_at_call 119;with_reducible refine (rH.o _).mono ?_;rintro e w6 ⟨rfl,hb6⟩;have kc:=kb.trans (hb6.mono kb.size);obtain⟨z0,z1,z2,z3,z4,z5,z6⟩:=HJ.o _ kc;have zf:=(lW.o.below kc lW.o.lt).free;have zl:=(lW.o.below kc lW.o.lt).lt)
   | fail)
  all_goals
   have oU:=(show BR wc l.a l.wd L f' from hWd).below kc;have oV:=HWr.o.Cb kc;have nC:=(lW.o.below kc lW.o.lt).set 11 (I Z (pW:Int));simp at nC;have HKK:=Qa (HK.o w6 oU oV nC);have cB6:=((show An wc Bx #[I Z (1+(sz:Int)),sz,tr] 135 from jB).below kc jB.lt);have cB7:=(cB6.Ao (a:=⟨l.h,11,none⟩) xZ (I Z (pW:Int))).cell;clear oU oV nC cB6 y0 y1 y2 y3 y4 y5 y6 z0 z1 z2 z3 z4 z5 z6 zf zl hb5 hb6 kb kc cB cS k11;go_wp2_with fail;refine HKK.o.mono ?_;rintro e w7 ⟨rfl,hq⟩;go_wp2_with fail;go_ret;exact⟨rfl,hq⟩
