import Derived.Test.YteehgedabdchcaaGreatQag
set_option linter.all false
set_option maxRecDepth 1000000
set_option maxHeartbeats 16000000
namespace Go.Proofs.YteehgedabdchcaaGreat
open Go.RowKit Hp
attribute [local go_sem ↓] Go.wp_at_zero Go.wp_at_succ
theorem spV_two (sz t:Nat):spV (1+sz) sz t=.agg #[.int .i64 (1+(sz:Int)),.int .i64 sz,.int .i64 t]:=by
 show Value.agg #[.int .i64 ((1+sz:Nat):Int),_,_]=_;rw[show ((1+sz:Nat):Int)=1+(sz:Int) from by omega]
theorem moved_t {w:World} {l:HLay} {vc vo vw vf:Value} {sz tp otp owd scn srl p rd L:Nat} {mvg:Bool} {f':Nat→Nat} (hb:Blk w l.h #[.pointer (some ⟨l.a,0,none⟩),.int .i64 1,.int .i64 sz,.int .i64 otp,.int .i64 (1+(sz:Int)),.int .i64 sz,.int .i64 tp,vo,vc,.int .i64 1,.bool mvg,.int .i64 owd,.int .i64 scn,.int .i64 srl,vw,vf] 185)
  (hth:Calls Tryz.prog 172 #[.pointer (some ⟨l.h,0,none⟩),.int .i64 p] w fun e w'=>e=.returned (.bool true)∧Below w.heap.size w w')
  (hcp:∀ W,Below w.heap.size w W→Calls Tryz.prog 235 #[.pointer (some ⟨l.a,0,none⟩),.int .i64 p,.agg #[.int .i64 (1+(sz:Int)),.int .i64 sz,.int .i64 tp]] W fun e w'=>e=.returned (.tuple #[.agg #[.int .i64 (1+(sz:Int)),.int .i64 sz,.int .i64 ((tp+rd:Nat):Int)],.int .i64 tp,.int .i64 0])∧Turned W w' l.a l.wd L f')
  (hne:l.h≠l.wd) (hwd:l.wd<w.heap.size) (hla:l.a<w.heap.size) (hrd:1≤rd∧rd≤owd) (hbd:(1+sz)≤tp∧sz≤16384∧tp+rd≤(1+sz)+sz∧owd≤65536)
  (Q:World→Prop) (htk:∀ W:World,Wds W l.a l.wd L f'→Wr l.wd w W→Blk (W.setCell ⟨l.h,11,none⟩ (.int .i64 ((owd-rd:Nat):Int))) l.h #[.pointer (some ⟨l.a,0,none⟩),.int .i64 1,.int .i64 sz,.int .i64 otp,.int .i64 (1+(sz:Int)),.int .i64 sz,.int .i64 tp,vo,vc,.int .i64 1,.bool mvg,.int .i64 ((owd-rd:Nat):Int),.int .i64 scn,.int .i64 srl,vw,vf] 185 →
   Calls Tryz.prog 230 #[.pointer (some ⟨l.h,0,none⟩),.agg #[.int .i64 (1+(sz:Int)),.int .i64 sz,.int .i64 ((tp+rd:Nat):Int)],.int .i64 tp] (W.setCell ⟨l.h,11,none⟩ (.int .i64 ((owd-rd:Nat):Int))) fun e w'=>e=.returned (.tuple #[])∧Q w') :
  Calls Tryz.prog 173 #[.pointer (some ⟨l.h,0,none⟩),.int .i64 p] w fun e w'=>e=.returned (.int .i64 tp)∧Q w':=by
 obtain⟨tr,htr⟩:∃ tr:Nat,tr=tp+rd:=⟨_,rfl⟩;rw[←htr]at hcp htk hbd;have HU1:=Lib.hid (fun W=>used_any (b:=(1+sz)) (s:=sz) (t:=tr) ⟨by omega,by omega,by omega,by omega⟩ W)
 have HU2:=Lib.hid (fun W=>used_any (b:=(1+sz)) (s:=sz) (t:=tp) ⟨by omega,by omega,by omega,by omega⟩ W)
 obtain⟨ua,hua⟩:∃ ua:Nat,ua=tr-(1+sz):=⟨_,rfl⟩;obtain⟨ub,hub⟩:∃ ub:Nat,ub=tp-(1+sz):=⟨_,rfl⟩;obtain⟨ow',how⟩:∃ ow':Nat,ow'=owd-rd:=⟨_,rfl⟩;have e1:IntKind.i64.wrap ((ua:Int)-(ub:Int))=(rd:Int):=by rw[IntWalk.i64_in _ (by omega)];omega
 have e2:IntKind.i64.wrap ((owd:Int)-(rd:Int))=(ow':Int):=by rw[IntWalk.i64_in _ (by omega)];omega
 rw[←hua]at HU1;rw[←hub]at HU2;rw[←how]at htk;have HU1:=Lib.hid (show ∀ W:World,Calls Tryz.prog 188 #[.agg #[.int .i64 (1+(sz:Int)),.int .i64 sz,.int .i64 tr]] W fun e w'=>e=.returned (.int .i64 ua)∧Below W.heap.size W w' from by exact fun W=>by have:=HU1.out W;rw[spV_two]at this;exact this)
 have HU2:=Lib.hid (show ∀ W:World,Calls Tryz.prog 188 #[.agg #[.int .i64 (1+(sz:Int)),.int .i64 sz,.int .i64 tp]] W fun e w'=>e=.returned (.int .i64 ub)∧Below W.heap.size W w' from by exact fun W=>by have:=HU2.out W;rw[spV_two]at this;exact this)
 have nt1:((tr:Int)==(tp:Int))=false:=by rw[beq_eq_false_iff_ne];omega
 have nt2:((tr:Int) != (tp:Int))=true:=by rw[bne_iff_ne];omega
 have HT:=Lib.hid hth;have HC:=Lib.hid hcp;have HK:=Lib.hid htk;have hlh:=hb.lt;clear hth hcp htk htr hua hub how hrd hbd;go_enter Tryz.func173,Tryz.ntmps173;go_wp2_with fail;refine HT.out.mono ?_
 rintro e w1 ⟨rfl,hb1⟩
 have jH:=hb.below hb1 hb.lt;have c:=jH.cell;have s1:=jH.lt;go_upto_region 3 with fail;have k9:=c 9;have k1:=c 4;have k2:=c 5;have k3:=c 6;simp at k9 k1 k2 k3;have hnw:=World.new_ne w1 ⟨l.h,9,none⟩ k9;go_region_held3 (fun w'=>w'.cell? ⟨l.h,9,none⟩=some (.int .i64 1)∧w'.cell? ⟨l.h,4,none⟩=some (.int .i64 (1+(sz:Int)))∧w'.cell? ⟨l.h,5,none⟩=some (.int .i64 sz)∧w'.cell? ⟨l.h,6,none⟩=some (.int .i64 tp)) (go_keep) (fail)
 clear c s1 k9 k1 k2 k3 hnw HT;obtain⟨W2,hW2⟩:∃ W,W=(w1.alloc (.cells #[.int .i64 (1+(sz:Int)),.int .i64 sz,.int .i64 tp] 181)).drew:=⟨_,rfl⟩;have bW2:Below w.heap.size w W2:=by rw[hW2];exact bdrew (balloc hb1 _)
 have jH2:Blk W2 l.h #[.pointer (some ⟨l.a,0,none⟩),.int .i64 1,.int .i64 sz,.int .i64 otp,.int .i64 (1+(sz:Int)),.int .i64 sz,.int .i64 tp,vo,vc,.int .i64 1,.bool mvg,.int .i64 owd,.int .i64 scn,.int .i64 srl,vw,vf] 185:=by rw[hW2];exact drewB (jH.alloc _)
 have jS2:Blk W2 w1.heap.size #[.int .i64 (1+(sz:Int)),.int .i64 sz,.int .i64 tp] 181:=by rw[hW2];exact drewB (Blk.new _ _ _)
 have nS:w.heap.size≤w1.heap.size:=hb1.size;rw[←hW2];obtain⟨bS,hbS⟩:∃ b,b=w1.heap.size:=⟨_,rfl⟩;rw[←hbS]at jS2 nS ⊢;clear hW2 hbS hb1 jH hb;have cH:=jH2.cell;have cS:=jS2.cell;have sH:=jH2.lt;have sS:=jS2.lt;go_upto_region 4 with fail;go_cut [6,7,8] (fun t6 t7 t8 wx=>∃ Bx,t6=.pointer (some ⟨Bx,0,none⟩)∧t7=.int .i64 tp∧t8=.int .i64 0∧Blk wx Bx #[.int .i64 (1+(sz:Int)),.int .i64 sz,.int .i64 tr] 181∧W2.heap.size≤Bx∧Wds wx l.a l.wd L f'∧Wr l.wd W2 wx)
 case first =>
  have hla2:l.a<W2.heap.size:=Nat.lt_of_lt_of_le hla bW2.size;have hwd2:l.wd<W2.heap.size:=Nat.lt_of_lt_of_le hwd bW2.size;go_region_with (first|(go_at_call 235;refine (HC.out _ (by first|exact bdrew bW2|exact bdrew (balloc bW2 _)|exact balloc (bdrew bW2) _)).mono ?_;rintro e w4 ⟨rfl,hT4⟩;try (have jB4:Blk w4 W2.heap.size #[.int .i64 0,.int .i64 0,.int .i64 0] 181:=Blk.wr (drewB (Blk.new W2 _ _)) hT4.2 (by omega);have cB4:=jB4.cell;have zB4:=jB4.free;have sB4:=jB4.lt))|fail)
  all_goals
   go_wp2_with fail;go_meet;first
    | exact⟨_,rfl,rfl,rfl,Blk.new _ _ _,hT4.2.size,hT4.1.below (balloc (bsame _) _),Wr.below_then hT4.2.undrew (balloc (bsame _) _)⟩
    | exact⟨W2.heap.size,rfl,rfl,rfl,by simpa using ((jB4.set 0 _).set 1 _).set 2 _,Nat.le_refl _,((hT4.1.set_new (by omega) (by omega) _ _).set_new (by omega) (by omega) _ _).set_new (by omega) (by omega) _ _,
      (((Wr.of_below (balloc (bsame W2) _)).trans hT4.2.undrew).set_new (Nat.le_refl _) _ _ |>.set_new (Nat.le_refl _) _ _).set_new (Nat.le_refl _) _ _⟩
 case rest =>
  obtain⟨Bx,rfl,rfl,rfl,jB,hBx,hWd,hWr⟩:=hcut;have jHc:=jH2.wr hWr hne;have jSc:=jS2.wr hWr (by omega)
  have HWr:=Lib.hid ((Wr.of_below bW2).trans hWr);clear jH2 jS2 cH cS HC bW2 hWr;have cB:=jB.cell;have cS:=jSc.cell;have sB:=jB.lt;have sS:=jSc.lt;have sH:=jHc.lt;have neBH:Bx≠l.h:=by omega
  have neSH:bS≠l.h:=by omega
  have HJ:=Lib.hid (fun (W:World) (hW:Below wc.heap.size wc W)=>show W.cell? ⟨l.h,11,none⟩=some (.int .i64 owd)∧W.cell? ⟨Bx,0,none⟩=some (.int .i64 (1+(sz:Int)))∧W.cell? ⟨Bx,1,none⟩=some (.int .i64 sz)∧W.cell? ⟨Bx,2,none⟩=some (.int .i64 tr)∧W.cell? ⟨bS,0,none⟩=some (.int .i64 (1+(sz:Int)))∧W.cell? ⟨bS,1,none⟩=some (.int .i64 sz)∧W.cell? ⟨bS,2,none⟩=some (.int .i64 tp) from ⟨(jHc.below hW sH).cell 11,(jB.below hW sB).cell 0,(jB.below hW sB).cell 1,(jB.below hW sB).cell 2,(jSc.below hW sS).cell 0,(jSc.below hW sS).cell 1,(jSc.below hW sS).cell 2⟩)
  have HJH:=Lib.hid jHc;have k11:wc.cell? ⟨l.h,11,none⟩=some (.int .i64 owd):=by rw[jHc.cell];rfl
  have HB0:=Lib.hid (show Below wc.heap.size wc wc.drew from bdrew (bsame wc));go_upto_region 8 with fail;go_region_with (first
   | (go_at_call 188;with_reducible refine (HU1.out _).mono ?_;rintro e w5 ⟨rfl,hb5⟩;have kb:=HB0.out.trans (hb5.mono HB0.out.size);obtain⟨y0,y1,y2,y3,y4,y5,y6⟩:=HJ.out _ kb)
   | (go_at_call 188;with_reducible refine (HU2.out _).mono ?_;rintro e w6 ⟨rfl,hb6⟩;have kc:=kb.trans (hb6.mono kb.size);obtain⟨z0,z1,z2,z3,z4,z5,z6⟩:=HJ.out _ kc;have zf:=(HJH.out.below kc HJH.out.lt).free;have zl:=(HJH.out.below kc HJH.out.lt).lt)
   | fail)
  all_goals
   have hWd6:=(show Wds wc l.a l.wd L f' from hWd).below kc;have hWr6:=HWr.out.below_then kc;have jH6:=(HJH.out.below kc HJH.out.lt).set 11 (.int .i64 (ow':Int));simp at jH6;have HKK:=Lib.hid (HK.out w6 hWd6 hWr6 jH6);have cB6:=((show Blk wc Bx #[.int .i64 (1+(sz:Int)),.int .i64 sz,.int .i64 tr] 181 from jB).below kc jB.lt);have cB7:=(cB6.set_other (a:=⟨l.h,11,none⟩) neBH (.int .i64 (ow':Int))).cell;clear hWd6 hWr6 jH6 cB6 y0 y1 y2 y3 y4 y5 y6 z0 z1 z2 z3 z4 z5 z6 zf zl hb5 hb6 kb kc cB cS k11;go_wp2_with fail;refine HKK.out.mono ?_
   rintro e w7 ⟨rfl,hq⟩
   go_wp2_with fail;go_ret;exact⟨rfl,hq⟩
end Go.Proofs.YteehgedabdchcaaGreat
