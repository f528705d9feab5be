import Derived.Test.YteehgedabdchcaaGreatKag
set_option linter.all false
set_option maxRecDepth 1000000
set_option maxHeartbeats 16000000
open Go renaming World->Aa,Calls->Ab,Value->Ac
open Go.RowKit renaming Below->Ae
open Go.Value renaming int->I,pointer->Ag,tuple->Aj,agg->Ak
open Go.IntKind renaming i64->Z
open Go.Ending renaming returned->O
namespace Go.Proofs.YteehgedabdchcaaGreat
open Go.RowKit Hp
attribute [local go_sem ↓] Go.wp_at_zero Go.wp_at_succ
theorem UY (sz t:Nat):Dg (1+sz) sz t=Ak #[I Z (1+(sz:Int)),I Z sz,I Z t]:=by
 show Value.agg #[I Z ((1+sz:Nat):Int),_,_]=_;rw[show ((1+sz:Nat):Int)=1+(sz:Int) from by omega]
theorem K6 {w:Aa} {l:Ba} {vc vo vw vf:Ac} {sz tp otp owd Ci srl p rd L:Nat} {mvg:Bool} {f':Nat->Nat} (hb:Am w l.h #[Ag (some ⟨l.a,0,none⟩),I Z 1,I Z sz,I Z otp,I Z (1+(sz:Int)),I Z sz,I Z tp,vo,vc,I Z 1,.bool mvg,I Z owd,I Z Ci,I Z srl,vw,vf] 185)
  (hth:Ab Tryz.prog 172 #[Ag (some ⟨l.h,0,none⟩),I Z p] w fun e w'=>e=O (.bool true)/\Ae w.heap.size w w')
  (hcp:∀ W,Ae w.heap.size w W->Ab Tryz.prog 235 #[Ag (some ⟨l.a,0,none⟩),I Z p,Ak #[I Z (1+(sz:Int)),I Z sz,I Z tp]] W fun e w'=>e=O (Aj #[Ak #[I Z (1+(sz:Int)),I Z sz,I Z ((tp+rd:Nat):Int)],I Z tp,I Z 0])/\Br W w' l.a l.wd L f')
  (hne:l.h≠l.wd) (hwd:l.wd<w.heap.size) (hla:l.a<w.heap.size) (hrd:1<=rd/\rd<=owd) (hbd:(1+sz)<=tp/\sz<=16384/\tp+rd<=(1+sz)+sz/\owd<=65536)
  (Q:Aa->Prop) (htk:∀ W:Aa,BF W l.a l.wd L f'->Wr l.wd w W->Am (W.setCell ⟨l.h,11,none⟩ (I Z ((owd-rd:Nat):Int))) l.h #[Ag (some ⟨l.a,0,none⟩),I Z 1,I Z sz,I Z otp,I Z (1+(sz:Int)),I Z sz,I Z tp,vo,vc,I Z 1,.bool mvg,I Z ((owd-rd:Nat):Int),I Z Ci,I Z srl,vw,vf] 185 ->
   Ab Tryz.prog 230 #[Ag (some ⟨l.h,0,none⟩),Ak #[I Z (1+(sz:Int)),I Z sz,I Z ((tp+rd:Nat):Int)],I Z tp] (W.setCell ⟨l.h,11,none⟩ (I Z ((owd-rd:Nat):Int))) fun e w'=>e=O (Aj #[])/\Q w') :
  Ab Tryz.prog 173 #[Ag (some ⟨l.h,0,none⟩),I Z p] w fun e w'=>e=O (I Z tp)/\Q w':=by
 obtain⟨tr,htr⟩:∃ tr:Nat,tr=tp+rd:=⟨_,rfl⟩;rw[<-htr]at hcp htk hbd;have HU1:=Qa (fun W=>yl (b:=(1+sz)) (s:=sz) (t:=tr) ⟨by omega,by omega,by omega,by omega⟩ W)
 have HU2:=Qa (fun W=>yl (b:=(1+sz)) (s:=sz) (t:=tp) ⟨by omega,by omega,by omega,by omega⟩ W)
 obtain⟨ua,hua⟩:∃ ua:Nat,ua=tr-(1+sz):=⟨_,rfl⟩;obtain⟨ub,hub⟩:∃ ub:Nat,ub=tp-(1+sz):=⟨_,rfl⟩;obtain⟨ow',how⟩:∃ ow':Nat,ow'=owd-rd:=⟨_,rfl⟩;have e1:IntKind.i64.wrap ((ua:Int)-(ub:Int))=(rd:Int):=by rw[IntWalk.i64_in _ (by omega)];omega
 have e2:IntKind.i64.wrap ((owd:Int)-(rd:Int))=(ow':Int):=by rw[IntWalk.i64_in _ (by omega)];omega
 rw[<-hua]at HU1;rw[<-hub]at HU2;rw[<-how]at htk;have HU1:=Qa (show ∀ W:Aa,Ab Tryz.prog 188 #[Ak #[I Z (1+(sz:Int)),I Z sz,I Z tr]] W fun e w'=>e=O (I Z ua)/\Ae W.heap.size W w' from by exact fun W=>by have:=HU1.out W;rw[UY]at this;exact this)
 have HU2:=Qa (show ∀ W:Aa,Ab Tryz.prog 188 #[Ak #[I Z (1+(sz:Int)),I Z sz,I Z tp]] W fun e w'=>e=O (I Z ub)/\Ae W.heap.size W w' from by exact fun W=>by have:=HU2.out W;rw[UY]at this;exact this)
 have nt1:((tr:Int)==(tp:Int))=false:=by rw[Qh];omega
 have nt2:((tr:Int) != (tp:Int))=true:=by rw[bne_iff_ne];omega
 have HT:=Qa hth;have HC:=Qa hcp;have HK:=Qa htk;have hlh:=hb.lt;clear hth hcp htk htr hua hub how hrd hbd;go_enter Tryz.func173,Tryz.ntmps173;go_wp2_with fail;refine HT.out.mono ?_
 rintro e w1 ⟨rfl,hb1⟩
 have jH:=hb.below hb1 hb.lt;have c:=jH.cell;have s1:=jH.lt;go_upto_region 3 with fail;have k9:=c 9;have k1:=c 4;have k2:=c 5;have k3:=c 6;simp at k9 k1 k2 k3;have hnw:=World.new_ne w1 ⟨l.h,9,none⟩ k9;go_region_held3 (fun w'=>w'.cell? ⟨l.h,9,none⟩=some (I Z 1)/\w'.cell? ⟨l.h,4,none⟩=some (I Z (1+(sz:Int)))/\w'.cell? ⟨l.h,5,none⟩=some (I Z sz)/\w'.cell? ⟨l.h,6,none⟩=some (I Z tp)) (go_keep) (fail)
 clear c s1 k9 k1 k2 k3 hnw HT;obtain⟨W2,hW2⟩:∃ W,W=(w1.alloc (.cells #[I Z (1+(sz:Int)),I Z sz,I Z tp] 181)).drew:=⟨_,rfl⟩;have bW2:Ae w.heap.size w W2:=by rw[hW2];exact qe (qa hb1 _)
 have jH2:Am W2 l.h #[Ag (some ⟨l.a,0,none⟩),I Z 1,I Z sz,I Z otp,I Z (1+(sz:Int)),I Z sz,I Z tp,vo,vc,I Z 1,.bool mvg,I Z owd,I Z Ci,I Z srl,vw,vf] 185:=by rw[hW2];exact qi (jH.alloc _)
 have jS2:Am W2 w1.heap.size #[I Z (1+(sz:Int)),I Z sz,I Z tp] 181:=by rw[hW2];exact qi (Am.new _ _ _)
 have nS:w.heap.size<=w1.heap.size:=hb1.size;rw[<-hW2];obtain⟨bS,hbS⟩:∃ b,b=w1.heap.size:=⟨_,rfl⟩;rw[<-hbS]at jS2 nS ⊢;clear hW2 hbS hb1 jH hb;have cH:=jH2.cell;have cS:=jS2.cell;have sH:=jH2.lt;have sS:=jS2.lt;go_upto_region 4 with fail;go_cut [6,7,8] (fun t6 t7 t8 wx=>∃ Bx,t6=Ag (some ⟨Bx,0,none⟩)/\t7=I Z tp/\t8=I Z 0/\Am wx Bx #[I Z (1+(sz:Int)),I Z sz,I Z tr] 181/\W2.heap.size<=Bx/\BF wx l.a l.wd L f'/\Wr l.wd W2 wx)
 case first =>
  have hla2:l.a<W2.heap.size:=Qn hla bW2.size;have hwd2:l.wd<W2.heap.size:=Qn hwd bW2.size;go_region_with (first|(go_at_call 235;refine (HC.out _ (by first|exact qe bW2|exact qe (qa bW2 _)|exact qa (qe bW2) _)).mono ?_;rintro e w4 ⟨rfl,hT4⟩;try (have jB4:Am w4 W2.heap.size #[I Z 0,I Z 0,I Z 0] 181:=Am.wr (qi (Am.new W2 _ _)) hT4.2 (by omega);have cB4:=jB4.cell;have zB4:=jB4.free;have sB4:=jB4.lt))|fail)
  all_goals
   go_wp2_with fail;go_meet;first
    | exact⟨_,rfl,rfl,rfl,Am.new _ _ _,hT4.2.size,hT4.1.below (qa (qc _) _),Wr.BG hT4.2.D9 (qa (qc _) _)⟩
    | exact⟨W2.heap.size,rfl,rfl,rfl,by simpa using ((jB4.set 0 _).set 1 _).set 2 _,Qk _,((hT4.1.BH (by omega) (by omega) _ _).BH (by omega) (by omega) _ _).BH (by omega) (by omega) _ _,
      (((Wr.of_below (qa (qc W2) _)).trans hT4.2.D9).BH (Qk _) _ _ |>.BH (Qk _) _ _).BH (Qk _) _ _⟩
 case rest =>
  obtain⟨Bx,rfl,rfl,rfl,jB,hBx,hWd,hWr⟩:=hcut;have jHc:=jH2.wr hWr hne;have jSc:=jS2.wr hWr (by omega)
  have HWr:=Qa ((Wr.of_below bW2).trans hWr);clear jH2 jS2 cH cS HC bW2 hWr;have cB:=jB.cell;have cS:=jSc.cell;have sB:=jB.lt;have sS:=jSc.lt;have sH:=jHc.lt;have neBH:Bx≠l.h:=by omega
  have neSH:bS≠l.h:=by omega
  have HJ:=Qa (fun (W:Aa) (hW:Ae wc.heap.size wc W)=>show W.cell? ⟨l.h,11,none⟩=some (I Z owd)/\W.cell? ⟨Bx,0,none⟩=some (I Z (1+(sz:Int)))/\W.cell? ⟨Bx,1,none⟩=some (I Z sz)/\W.cell? ⟨Bx,2,none⟩=some (I Z tr)/\W.cell? ⟨bS,0,none⟩=some (I Z (1+(sz:Int)))/\W.cell? ⟨bS,1,none⟩=some (I Z sz)/\W.cell? ⟨bS,2,none⟩=some (I Z tp) from ⟨(jHc.below hW sH).cell 11,(jB.below hW sB).cell 0,(jB.below hW sB).cell 1,(jB.below hW sB).cell 2,(jSc.below hW sS).cell 0,(jSc.below hW sS).cell 1,(jSc.below hW sS).cell 2⟩)
  have HJH:=Qa jHc;have k11:wc.cell? ⟨l.h,11,none⟩=some (I Z owd):=by rw[jHc.cell];rfl
  have HB0:=Qa (show Ae wc.heap.size wc wc.drew from qe (qc wc));go_upto_region 8 with fail;go_region_with (first
   | (go_at_call 188;with_reducible refine (HU1.out _).mono ?_;rintro e w5 ⟨rfl,hb5⟩;have kb:=HB0.out.trans (hb5.mono HB0.out.size);obtain⟨y0,y1,y2,y3,y4,y5,y6⟩:=HJ.out _ kb)
   | (go_at_call 188;with_reducible refine (HU2.out _).mono ?_;rintro e w6 ⟨rfl,hb6⟩;have kc:=kb.trans (hb6.mono kb.size);obtain⟨z0,z1,z2,z3,z4,z5,z6⟩:=HJ.out _ kc;have zf:=(HJH.out.below kc HJH.out.lt).free;have zl:=(HJH.out.below kc HJH.out.lt).lt)
   | fail)
  all_goals
   have hWd6:=(show BF wc l.a l.wd L f' from hWd).below kc;have hWr6:=HWr.out.BG kc;have jH6:=(HJH.out.below kc HJH.out.lt).set 11 (I Z (ow':Int));simp at jH6;have HKK:=Qa (HK.out w6 hWd6 hWr6 jH6);have cB6:=((show Am wc Bx #[I Z (1+(sz:Int)),I Z sz,I Z tr] 181 from jB).below kc jB.lt);have cB7:=(cB6.An (a:=⟨l.h,11,none⟩) neBH (I Z (ow':Int))).cell;clear hWd6 hWr6 jH6 cB6 y0 y1 y2 y3 y4 y5 y6 z0 z1 z2 z3 z4 z5 z6 zf zl hb5 hb6 kb kc cB cS k11;go_wp2_with fail;refine HKK.out.mono ?_
   rintro e w7 ⟨rfl,hq⟩
   go_wp2_with fail;go_ret;exact⟨rfl,hq⟩
end Go.Proofs.YteehgedabdchcaaGreat
