import Derived.Test.YteehgedabdchcaaGreatQae
set_option linter.all false
set_option maxRecDepth 1000000
set_option maxHeartbeats 16000000
namespace Go.Proofs.YteehgedabdchcaaGreat
open Go.RowKit Hp
attribute [local go_sem ↓] Go.wp_at_zero Go.wp_at_succ
theorem Wr.undrew {b:Nat}{w w':World}(h:Wr b w.drew w'):Wr b w w':=⟨h.os,h.tape,h.output,h.size,h.block⟩
theorem moved_f {w:World} {l:HLay} {vc vo vw vf:Value} {sz tp otp owd scn srl p rd L:Nat} {mvg:Bool} {f':Nat→Nat} (hb:Blk w l.h #[.pointer (some ⟨l.a,0,none⟩),.int .i64 1,.int .i64 sz,.int .i64 tp,.int .i64 (1+(sz:Int)),.int .i64 sz,.int .i64 otp,vc,vo,.int .i64 0,.bool mvg,.int .i64 owd,.int .i64 scn,.int .i64 srl,vw,vf] 185)
  (hth:Calls Tryz.prog 172 #[.pointer (some ⟨l.h,0,none⟩),.int .i64 p] w fun e w'=>e=.returned (.bool true)∧Below w.heap.size w w')
  (hcp:∀ W,Below w.heap.size w W→Calls Tryz.prog 235 #[.pointer (some ⟨l.a,0,none⟩),.int .i64 p,.agg #[.int .i64 1,.int .i64 sz,.int .i64 tp]] W fun e w'=>e=.returned (.tuple #[.agg #[.int .i64 1,.int .i64 sz,.int .i64 ((tp+rd:Nat):Int)],.int .i64 tp,.int .i64 0])∧Turned W w' l.a l.wd L f')
  (hne:l.h≠l.wd) (hwd:l.wd<w.heap.size) (hla:l.a<w.heap.size) (hrd:1≤rd∧rd≤owd) (hbd:1≤tp∧sz≤16384∧tp+rd≤1+sz∧owd≤65536)
  (Q:World→Prop) (htk:∀ W:World,Wds W l.a l.wd L f'→Wr l.wd w W→Blk (W.setCell ⟨l.h,11,none⟩ (.int .i64 ((owd-rd:Nat):Int))) l.h #[.pointer (some ⟨l.a,0,none⟩),.int .i64 1,.int .i64 sz,.int .i64 tp,.int .i64 (1+(sz:Int)),.int .i64 sz,.int .i64 otp,vc,vo,.int .i64 0,.bool mvg,.int .i64 ((owd-rd:Nat):Int),.int .i64 scn,.int .i64 srl,vw,vf] 185 →
   Calls Tryz.prog 230 #[.pointer (some ⟨l.h,0,none⟩),.agg #[.int .i64 1,.int .i64 sz,.int .i64 ((tp+rd:Nat):Int)],.int .i64 tp] (W.setCell ⟨l.h,11,none⟩ (.int .i64 ((owd-rd:Nat):Int))) fun e w'=>e=.returned (.tuple #[])∧Q w') :
  Calls Tryz.prog 173 #[.pointer (some ⟨l.h,0,none⟩),.int .i64 p] w fun e w'=>e=.returned (.int .i64 tp)∧Q w':=by
 obtain⟨tr,htr⟩:∃ tr:Nat,tr=tp+rd:=⟨_,rfl⟩;rw[←htr]at hcp htk hbd;have HU1:=Lib.hid (fun W=>used_any (b:=1) (s:=sz) (t:=tr) ⟨by omega,by omega,by omega,by omega⟩ W)
 have HU2:=Lib.hid (fun W=>used_any (b:=1) (s:=sz) (t:=tp) ⟨by omega,by omega,by omega,by omega⟩ W)
 obtain⟨ua,hua⟩:∃ ua:Nat,ua=tr-1:=⟨_,rfl⟩;obtain⟨ub,hub⟩:∃ ub:Nat,ub=tp-1:=⟨_,rfl⟩;obtain⟨ow',how⟩:∃ ow':Nat,ow'=owd-rd:=⟨_,rfl⟩;have e1:IntKind.i64.wrap ((ua:Int)-(ub:Int))=(rd:Int):=by rw[IntWalk.i64_in _ (by omega)];omega
 have e2:IntKind.i64.wrap ((owd:Int)-(rd:Int))=(ow':Int):=by rw[IntWalk.i64_in _ (by omega)];omega
 rw[←hua]at HU1;rw[←hub]at HU2;rw[←how]at htk;have HU1:=Lib.hid (show ∀ W:World,Calls Tryz.prog 188 #[.agg #[.int .i64 1,.int .i64 sz,.int .i64 tr]] W fun e w'=>e=.returned (.int .i64 ua)∧Below W.heap.size W w' from by exact HU1.out)
 have HU2:=Lib.hid (show ∀ W:World,Calls Tryz.prog 188 #[.agg #[.int .i64 1,.int .i64 sz,.int .i64 tp]] W fun e w'=>e=.returned (.int .i64 ub)∧Below W.heap.size W w' from by exact HU2.out)
 have nt1:((tr:Int)==(tp:Int))=false:=by rw[beq_eq_false_iff_ne];omega
 have nt2:((tr:Int) != (tp:Int))=true:=by rw[bne_iff_ne];omega
 have HT:=Lib.hid hth;have HC:=Lib.hid hcp;have HK:=Lib.hid htk;have hlh:=hb.lt;clear hth hcp htk htr hua hub how hrd hbd;go_enter Tryz.func173,Tryz.ntmps173;go_wp2_with fail;refine HT.out.mono ?_
 rintro e w1 ⟨rfl,hb1⟩
 have jH:=hb.below hb1 hb.lt;have c:=jH.cell;have s1:=jH.lt;go_upto_region 3 with fail;have k9:=c 9;have k1:=c 1;have k2:=c 2;have k3:=c 3;simp at k9 k1 k2 k3;have hnw:=World.new_ne w1 ⟨l.h,9,none⟩ k9;go_region_held3 (fun w'=>w'.cell? ⟨l.h,9,none⟩=some (.int .i64 0)∧w'.cell? ⟨l.h,1,none⟩=some (.int .i64 1)∧w'.cell? ⟨l.h,2,none⟩=some (.int .i64 sz)∧w'.cell? ⟨l.h,3,none⟩=some (.int .i64 tp)) (go_keep) (fail)
 clear c s1 k9 k1 k2 k3 hnw HT;obtain⟨W2,hW2⟩:∃ W,W=(w1.alloc (.cells #[.int .i64 1,.int .i64 sz,.int .i64 tp] 181)).drew:=⟨_,rfl⟩;have bW2:Below w.heap.size w W2:=by rw[hW2];exact bdrew (balloc hb1 _)
 have jH2:Blk W2 l.h #[.pointer (some ⟨l.a,0,none⟩),.int .i64 1,.int .i64 sz,.int .i64 tp,.int .i64 (1+(sz:Int)),.int .i64 sz,.int .i64 otp,vc,vo,.int .i64 0,.bool mvg,.int .i64 owd,.int .i64 scn,.int .i64 srl,vw,vf] 185:=by rw[hW2];exact drewB (jH.alloc _)
 have jS2:Blk W2 w1.heap.size #[.int .i64 1,.int .i64 sz,.int .i64 tp] 181:=by rw[hW2];exact drewB (Blk.new _ _ _)
 have nS:w.heap.size≤w1.heap.size:=hb1.size;rw[←hW2];obtain⟨bS,hbS⟩:∃ b,b=w1.heap.size:=⟨_,rfl⟩;rw[←hbS]at jS2 nS ⊢;clear hW2 hbS hb1 jH hb;have cH:=jH2.cell;have cS:=jS2.cell;have sH:=jH2.lt;have sS:=jS2.lt;go_upto_region 4 with fail;go_cut [6,7,8] (fun t6 t7 t8 wx=>∃ Bx,t6=.pointer (some ⟨Bx,0,none⟩)∧t7=.int .i64 tp∧t8=.int .i64 0∧Blk wx Bx #[.int .i64 1,.int .i64 sz,.int .i64 tr] 181∧W2.heap.size≤Bx∧Wds wx l.a l.wd L f'∧Wr l.wd W2 wx)
 case first =>
  have hla2:l.a<W2.heap.size:=Nat.lt_of_lt_of_le hla bW2.size;have hwd2:l.wd<W2.heap.size:=Nat.lt_of_lt_of_le hwd bW2.size;go_region_with (first|(go_at_call 235;refine (HC.out _ (by first|exact bdrew bW2|exact bdrew (balloc bW2 _)|exact balloc (bdrew bW2) _)).mono ?_;rintro e w4 ⟨rfl,hT4⟩;try (have jB4:Blk w4 W2.heap.size #[.int .i64 0,.int .i64 0,.int .i64 0] 181:=Blk.wr (drewB (Blk.new W2 _ _)) hT4.2 (by omega);have cB4:=jB4.cell;have zB4:=jB4.free;have sB4:=jB4.lt))|fail)
  all_goals
   go_wp2_with fail;go_meet;first
    | exact⟨_,rfl,rfl,rfl,Blk.new _ _ _,hT4.2.size,hT4.1.below (balloc (bsame _) _),Wr.below_then hT4.2.undrew (balloc (bsame _) _)⟩
    | exact⟨W2.heap.size,rfl,rfl,rfl,by simpa using ((jB4.set 0 _).set 1 _).set 2 _,Nat.le_refl _,((hT4.1.set_new (by omega) (by omega) _ _).set_new (by omega) (by omega) _ _).set_new (by omega) (by omega) _ _,
      (((Wr.of_below (balloc (bsame W2) _)).trans hT4.2.undrew).set_new (Nat.le_refl _) _ _ |>.set_new (Nat.le_refl _) _ _).set_new (Nat.le_refl _) _ _⟩
 case rest =>
  obtain⟨Bx,rfl,rfl,rfl,jB,hBx,hWd,hWr⟩:=hcut;have jHc:=jH2.wr hWr hne;have jSc:=jS2.wr hWr (by omega)
  have HWr:=Lib.hid ((Wr.of_below bW2).trans hWr);clear jH2 jS2 cH cS HC bW2 hWr;have cB:=jB.cell;have cS:=jSc.cell;have sB:=jB.lt;have sS:=jSc.lt;have sH:=jHc.lt;have neBH:Bx≠l.h:=by omega
  have neSH:bS≠l.h:=by omega
  have HJ:=Lib.hid (fun (W:World) (hW:Below wc.heap.size wc W)=>show W.cell? ⟨l.h,11,none⟩=some (.int .i64 owd)∧W.cell? ⟨Bx,0,none⟩=some (.int .i64 1)∧W.cell? ⟨Bx,1,none⟩=some (.int .i64 sz)∧W.cell? ⟨Bx,2,none⟩=some (.int .i64 tr)∧W.cell? ⟨bS,0,none⟩=some (.int .i64 1)∧W.cell? ⟨bS,1,none⟩=some (.int .i64 sz)∧W.cell? ⟨bS,2,none⟩=some (.int .i64 tp) from ⟨(jHc.below hW sH).cell 11,(jB.below hW sB).cell 0,(jB.below hW sB).cell 1,(jB.below hW sB).cell 2,(jSc.below hW sS).cell 0,(jSc.below hW sS).cell 1,(jSc.below hW sS).cell 2⟩)
  have HJH:=Lib.hid jHc;have k11:wc.cell? ⟨l.h,11,none⟩=some (.int .i64 owd):=by rw[jHc.cell];rfl
  have HB0:=Lib.hid (show Below wc.heap.size wc wc.drew from bdrew (bsame wc));go_upto_region 8 with fail;go_region_with (first
   | (go_at_call_of 188 (Value.agg #[.int .i64 1,.int .i64 sz,.int .i64 tr]);with_reducible refine (HU1.out _).mono ?_;rintro e w5 ⟨rfl,hb5⟩;have kb:=HB0.out.trans (hb5.mono HB0.out.size);obtain⟨y0,y1,y2,y3,y4,y5,y6⟩:=HJ.out _ kb)
   | (go_at_call_of 188 (Value.agg #[.int .i64 1,.int .i64 sz,.int .i64 tp]);with_reducible refine (HU2.out _).mono ?_;rintro e w6 ⟨rfl,hb6⟩;have kc:=kb.trans (hb6.mono kb.size);obtain⟨z0,z1,z2,z3,z4,z5,z6⟩:=HJ.out _ kc;have zf:=(HJH.out.below kc HJH.out.lt).free;have zl:=(HJH.out.below kc HJH.out.lt).lt)
   | fail)
  all_goals
   have hWd6:=(show Wds wc l.a l.wd L f' from hWd).below kc;have hWr6:=HWr.out.below_then kc;have jH6:=(HJH.out.below kc HJH.out.lt).set 11 (.int .i64 (ow':Int));simp at jH6;have HKK:=Lib.hid (HK.out w6 hWd6 hWr6 jH6);have cB6:=((show Blk wc Bx #[.int .i64 1,.int .i64 sz,.int .i64 tr] 181 from jB).below kc jB.lt);have cB7:=(cB6.set_other (a:=⟨l.h,11,none⟩) neBH (.int .i64 (ow':Int))).cell;clear hWd6 hWr6 jH6 cB6 y0 y1 y2 y3 y4 y5 y6 z0 z1 z2 z3 z4 z5 z6 zf zl hb5 hb6 kb kc cB cS k11;go_wp2_with fail;refine HKK.out.mono ?_
   rintro e w7 ⟨rfl,hq⟩
   go_wp2_with fail;go_ret;exact⟨rfl,hq⟩
def Ob.strong (o:Ob):List Nat:=if o.shp.weak then [] else o.ptrs
def Ob.setStrong (o:Ob)(l:List Nat):Ob:=if o.shp.weak then o else { o with ptrs:=l }
section
variable {w : World} {a wd L : Nat} {f : Nat → Nat} {p : Nat} {ob : Ob}
theorem strong1_any (s:Shp)(w:World):Calls Tryz.prog 243 #[shpV s] w fun e w'=>e=.returned (.int .i64 (if s.weak then 0 else (s.p:Int)))∧Below w.heap.size w w':=by
 obtain⟨sp,sd,wk,fn⟩:=s
 cases wk
 all_goals
  go_enter Tryz.func243,Tryz.ntmps243;go_wp2_with fail;go_ret;exact⟨rfl,balloc (bsame w) _⟩
theorem strong_any (h:Wds w a wd L f)(ho:ObAt f p ob)(hk:ob.ok)(hl:p+ob.size≤L) :
  Calls Tryz.prog 194 #[.pointer (some ⟨a,0,none⟩),.int .i64 p] w fun e w'=>∃ v,e=.returned (.tuple #[v,.int .i64 0])∧Row w' (fo w.heap.size) (1,0) 3 1 v ob.strong.length (ob.strong.map nv)∧Below w.heap.size w w':=by
 have HS:=Lib.hid (oshape_any h ho hk hl p rfl);have HT:=Lib.hid (fun w=>strong1_any ob.shp w)
 have HP:=Lib.hid (fun w' (hb:Below w.heap.size w w')(i x:Nat)(hx:ob.ptrs[i]?=some x)=>optr_get (h.below hb) ho hk hl i x hx p i rfl rfl)
 have hlp:=hk.lp;have h8:=hk.shp.1;obtain⟨iI,hi,hsI,hyI,hzI⟩:=info_int;have hu64:=Tryz.underlying25;obtain⟨⟨sp,sd,wk,fn⟩,fr,se,sr,ps,ns⟩:=ob;simp only at HS HT HP hlp h8;clear h ho hk hl;obtain⟨n,hn⟩:∃ n:Nat,n=if wk then 0 else sp:=⟨_,rfl⟩
 have hst:(Ob.mk ⟨sp,sd,wk,fn⟩ fr se sr ps ns).strong=ps.take n:=by
  unfold Ob.strong
  cases wk
  ·simp only[Bool.false_eq_true,if_false]at hn ⊢
   rw[hn,←hlp,List.take_length]
  ·simp only[if_true]at hn ⊢
   rw[hn];rfl
 have hsn:(if wk then (0:Int) else (sp:Int))=(n:Int):=by rw[hn];split<;>rfl
 have hn8:n≤sp:=by rw[hn];split<;>omega
 have hlen:(ps.take n).length=n:=by rw[List.length_take,hlp];omega
 rw[hst,hlen];simp only[hsn]at HT;have HT:=Lib.hid (show ∀ w:World,Calls Tryz.prog 243 #[.agg #[.int .i64 sp,.int .i64 sd,.bool wk,.bool fn]] w fun e w'=>e=.returned (.int .i64 n)∧Below w.heap.size w w' from HT.out)
 replace hlp:=Lib.hid hlp;replace hlen:=Lib.hid hlen;clear hst hsn hn;go_enter Tryz.func194,Tryz.ntmps194;go_wp2_with fail;refine HS.out.mono ?_
 rintro e w1 ⟨rfl,hb1⟩
 have jB:=Blk.new w1 #[.int .i64 sp,.int .i64 sd,.bool wk,.bool fn] 93;have cB:=jB.cell;have hb2:=balloc hb1 (.cells #[.int .i64 sp,.int .i64 sd,.bool wk,.bool fn] 93);go_wp2_with fail;refine (HT.out _).mono ?_
 rintro e w2 ⟨rfl,hb3⟩
 have hb4:=btrans hb2 hb3;clear hb1 hb2 hb3 jB cB;have hnI:(n:Int)≤8:=by omega
 go_wp2_with fail;go_loopw [9,25] (fun v ix wr=>∃ k:Nat,ix=.int .i64 k∧k≤n∧Row wr (fo w.heap.size) (1,0) 3 1 v k ((ps.take k).map nv)∧Below w.heap.size w wr) (fun _ ix _=>n-(intOf ix).toNat)
 case atStart=>exact⟨0,rfl,by omega,Row.nil _ _ _ _ _,hb4⟩
 case round =>
  obtain⟨k,rfl,hkn,hr,hbr⟩:=hrel;clear hb4;by_cases hlt:k<n
  ·have hkI:(k:Int)<(n:Int):=by omega
   have hk8:(k:Int)<8:=by omega
   obtain⟨x,hx⟩:∃ x,ps[k]?=some x:=⟨_,List.getElem?_eq_getElem (by rw[hlp.out];omega)⟩
   have htk:=Lib.hid (take_snoc_get hx);have hk1:k+1≤maxLen∧(k+1)*8≤140737488355328:=by simp only[maxLen];omega
   obtain⟨hk1,hk2⟩:=hk1;have hk1:=Lib.hid hk1;have hk2:=Lib.hid hk2;have HPx:=Lib.hid (HP.out _ hbr k x hx);have hr0:=Lib.hid hr;obtain⟨pa,cp,rfl⟩:=hr.slc;clear hr hx;go_wp2_with fail;refine HPx.out.mono ?_
   rintro e w3 ⟨rfl,hb3⟩
   go_wp2_with (first|(at_builtin;refine wpList_append_row _ rfl _ _ _ rfl 3 iI _ 1 8 hu64 hi hzI hsI hyI rfl (by decide) (fo w.heap.size) (1,0) _ _ _ rfl (Row.below (Row.below hr0.out hb3) (balloc (bsame w3) _)) ⟨w3.heap.size,0,none⟩ 1 1 [.int .i64 x] rfl rfl (news_one (Blk.new w3 _ _)) one_i64 hk1.out hk2.out ?_;intro v' w8 hown hst)|fail)
   have hb5:=balloc (btrans hbr hb3) (.cells #[.int .i64 x] 3);have hr8:=fo_grow hb5 hown;have hb8:=fo_below hb5 hst;go_roundw
   case rel=>exact⟨k+1,by simp,by omega,by rw[htk.out,map_snoc_nv];exact hr8,hb8⟩
   case measure=>simp[intOf];omega
  ·obtain rfl:k=n:=by omega
   go_wp2_with fail;go_ret2;exact⟨_,rfl,hr,hbr⟩
end
end Go.Proofs.YteehgedabdchcaaGreat
