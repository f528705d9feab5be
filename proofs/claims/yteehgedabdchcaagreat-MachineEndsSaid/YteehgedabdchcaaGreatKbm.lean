import Derived.Test.YteehgedabdchcaaGreatKai
set_option linter.all false
set_option maxRecDepth 1000000
set_option maxHeartbeats 16000000
open Go renaming World->Aa,Calls->Ab,Value->Ac
open Go.RowKit renaming Below->Ae
open Go.Value renaming int->I,pointer->Ag,slice->Ah,agg->Ak
open Go.IntKind renaming i64->Z
open Go.Ending renaming returned->O
namespace Go.Proofs.YteehgedabdchcaaGreat
open Go.RowKit Hp
attribute [local go_sem ↓] Go.wp_at_zero Go.wp_at_succ
section
variable {w w' : Aa} {o : Own} {l : Ba} {H : Hp} {vc vo vw vf : Ac} {f : Nat -> Nat}
theorem AE.flipped (h:AE w o l H vc vo vw vf f){w':Aa}(hb:Am w' l.h (H.flip.cells l.a (Ah none 0 0) vc vw vf) 185)(hs:Stp (fun t=>t=(l.id,0)) o o w w'):AE w' o l H.flip (Ah none 0 0) vc vw vf f:=by
 have hn:∀ j,j≠0->¬(l.id,j)=(l.id,0):=fun j hj e=>hj (by simpa using e)
 have hlen:H.flip.old.length=H.cur.length:=by simp[Hp.flip]
 have hmap:(H.flip.old.map fun x=>nv x.1)=H.cur.map fun x=>nv x.1:=by simp[Hp.flip,List.map_map,Function.comp_def]
 refine⟨hb,h.B5.Ao hs (by rw[h.oa];exact hn _ (by omega)) (by rw[h.ow];exact hn _ (by omega)),Row.nil _ _ _ _ _,?_,h.rw.Ao hs (hn _ (by omega)),h.rf.Ao hs (hn _ (by omega)),h.oh,h.oa,h.ow,fun x hx=>(by cases hx),fun x hx=>?_⟩
 ·rw[hlen,hmap]
  have:=h.rc.Ao hs (hn _ (by split<;>omega))
  have e:(if H.flip.use then 3 else 4)=(if H.use then 4 else 3):=by show (if !H.use then 3 else 4)=_;cases H.use<;>rfl
  rw[e];exact this
 ·obtain⟨z,hz,rfl⟩:=Qt.1 (show x ∈ H.cur.map _ from hx)
  exact⟨fun _=>h.E3 z hz,fun q hq=>by cases hq⟩
theorem Mb {sz tp otp owd Ci srl us:Nat}(hb:Am w l.h #[Ag (some ⟨l.a,0,none⟩),I Z 1,I Z sz,I Z tp,I Z (1+(sz:Int)),I Z sz,I Z otp,vc,vo,I Z 0,.bool false,I Z owd,I Z Ci,I Z srl,vw,vf] 185)
  (hE:∀ W,Ab Tryz.prog 187 #[Ak #[I Z (1+(sz:Int)),I Z sz,I Z otp]] W fun e w'=>e=O (Ak #[I Z (1+(sz:Int)),I Z sz,I Z (1+(sz:Int))])/\Ae W.heap.size W w')
  (hU:∀ W,Ab Tryz.prog 188 #[Ak #[I Z 1,I Z sz,I Z tp]] W fun e w'=>e=O (I Z us)/\Ae W.heap.size W w') :
  Ab Tryz.prog 125 #[Ag (some ⟨l.h,0,none⟩)] w fun e w'=>e=O (.bool true)/\Am w' l.h #[Ag (some ⟨l.a,0,none⟩),I Z 1,I Z sz,I Z tp,I Z (1+(sz:Int)),I Z sz,I Z (1+(sz:Int)),vc,Ah none 0 0,I Z 1,.bool true,I Z us,I Z (1+(sz:Int)),I Z srl,vw,vf] 185/\Wr l.h w w':=by
 have HE:=Qa hE;have HU:=Qa hU;clear hE hU;have c:=hb.cell;have z:=hb.free;have s:=hb.lt;go_enter Tryz.func125,Tryz.ntmps125;go_upto_region 5 with fail;obtain⟨W1,hW1⟩:∃ W,W=w.setCell ⟨l.h,9,none⟩ (I Z 1):=⟨_,rfl⟩;have j1:Am W1 l.h #[Ag (some ⟨l.a,0,none⟩),I Z 1,I Z sz,I Z tp,I Z (1+(sz:Int)),I Z sz,I Z otp,vc,vo,I Z 1,.bool false,I Z owd,I Z Ci,I Z srl,vw,vf] 185:=by rw[hW1];exact hb.set 9 _
 have r1:Wr l.h w W1:=by rw[hW1];exact Wr.set _ _ _ _
 rw[<-hW1];clear hW1 c z s hb;have k9:=j1.cell 9;have k1:=j1.cell 4;have k2:=j1.cell 5;have k3:=j1.cell 6;simp at k9 k1 k2 k3;have hn1:=World.new_ne W1 ⟨l.h,9,none⟩ k9;have s1:=j1.lt;have z1:=j1.free;go_cut [](fun wx=>Am wx l.h #[Ag (some ⟨l.a,0,none⟩),I Z 1,I Z sz,I Z tp,I Z (1+(sz:Int)),I Z sz,I Z (1+(sz:Int)),vc,vo,I Z 1,.bool false,I Z owd,I Z Ci,I Z srl,vw,vf] 185/\Wr l.h W1 wx)
 case first =>
  go_region_with (first|(go_at_call 187;refine (HE.out _).mono ?_;rintro e w4 ⟨rfl,hb4⟩;have j4:=Am.below (qi j1) hb4 (qi j1).lt;have c4:=j4.cell;have z4:=j4.free;have s4:=j4.lt)|fail)
  all_goals
   go_wp2_with fail;go_meet;exact⟨by simpa using ((j4.set 4 _).set 5 _).set 6 _,(((Wr.of_below (qe (qc W1))).trans (Wr.of_below hb4)).trans (Wr.set _ _ _ _)).trans ((Wr.set _ _ _ _).trans (Wr.set _ _ _ _))⟩
 case rest =>
  obtain⟨j2,r2⟩:=hcut;have R2:=Qa (r1.trans r2);clear k9 k1 k2 k3 hn1 s1 z1 r1 r2 j1;have c:=j2.cell;have z:=j2.free;have s:=j2.lt;go_upto_region 6 with fail;go_region;go_wp2_with fail;obtain⟨W4,hW4⟩:∃ W,W=((wc.setCell ⟨l.h,8,none⟩ (Ah none 0 0)).setCell ⟨l.h,10,none⟩ (.bool true)).drew:=⟨_,rfl⟩;have j4:Am W4 l.h #[Ag (some ⟨l.a,0,none⟩),I Z 1,I Z sz,I Z tp,I Z (1+(sz:Int)),I Z sz,I Z (1+(sz:Int)),vc,Ah none 0 0,I Z 1,.bool true,I Z owd,I Z Ci,I Z srl,vw,vf] 185:=by rw[hW4];exact qi (by simpa using (j2.set 8 (Ah none 0 0)).set 10 (.bool true))
  have r4:Wr l.h wc W4:=by rw[hW4];exact ((Wr.set _ _ _ _).trans (Wr.set _ _ _ _)).trans (Wr.of_below (qe (qc _)))
  rw[<-hW4];clear hW4 c z s j2;refine (HU.out _).mono ?_
  rintro e w5 ⟨rfl,hb5⟩
  have j5:=j4.below hb5 j4.lt;have r5:=r4.BG hb5;clear hb5 j4 r4;have c:=j5.cell;have z:=j5.free;have s:=j5.lt;go_upto_region 9 with fail;obtain⟨W6,hW6⟩:∃ W,W=w5.setCell ⟨l.h,11,none⟩ (I Z us):=⟨_,rfl⟩;have j6:Am W6 l.h #[Ag (some ⟨l.a,0,none⟩),I Z 1,I Z sz,I Z tp,I Z (1+(sz:Int)),I Z sz,I Z (1+(sz:Int)),vc,Ah none 0 0,I Z 1,.bool true,I Z us,I Z Ci,I Z srl,vw,vf] 185:=by rw[hW6];simpa using j5.set 11 (I Z us)
  have r6:Wr l.h wc W6:=by rw[hW6];exact r5.trans (Wr.set _ _ _ _)
  rw[<-hW6];clear hW6 c z s j5 r5;have c:=j6.cell;have z:=j6.free;have s:=j6.lt;go_region;go_wp2_with fail;go_ret;refine⟨rfl,qi (by simpa using j6.set 12 (I Z (1+(sz:Int)))),((R2.out.trans r6).trans (Wr.set _ _ _ _)).trans (Wr.of_below (qe (qc _)))⟩
theorem LF {sz tp otp owd Ci srl us:Nat}(hb:Am w l.h #[Ag (some ⟨l.a,0,none⟩),I Z 1,I Z sz,I Z otp,I Z (1+(sz:Int)),I Z sz,I Z tp,vo,vc,I Z 1,.bool false,I Z owd,I Z Ci,I Z srl,vw,vf] 185)
  (hE:∀ W,Ab Tryz.prog 187 #[Ak #[I Z 1,I Z sz,I Z otp]] W fun e w'=>e=O (Ak #[I Z 1,I Z sz,I Z 1])/\Ae W.heap.size W w')
  (hU:∀ W,Ab Tryz.prog 188 #[Ak #[I Z (1+(sz:Int)),I Z sz,I Z tp]] W fun e w'=>e=O (I Z us)/\Ae W.heap.size W w') :
  Ab Tryz.prog 125 #[Ag (some ⟨l.h,0,none⟩)] w fun e w'=>e=O (.bool true)/\Am w' l.h #[Ag (some ⟨l.a,0,none⟩),I Z 1,I Z sz,I Z 1,I Z (1+(sz:Int)),I Z sz,I Z tp,Ah none 0 0,vc,I Z 0,.bool true,I Z us,I Z 1,I Z srl,vw,vf] 185/\Wr l.h w w':=by
 have HE:=Qa hE;have HU:=Qa hU;clear hE hU;have c:=hb.cell;have z:=hb.free;have s:=hb.lt;go_enter Tryz.func125,Tryz.ntmps125;go_upto_region 5 with fail;obtain⟨W1,hW1⟩:∃ W,W=w.setCell ⟨l.h,9,none⟩ (I Z 0):=⟨_,rfl⟩;have j1:Am W1 l.h #[Ag (some ⟨l.a,0,none⟩),I Z 1,I Z sz,I Z otp,I Z (1+(sz:Int)),I Z sz,I Z tp,vo,vc,I Z 0,.bool false,I Z owd,I Z Ci,I Z srl,vw,vf] 185:=by rw[hW1];exact hb.set 9 _
 have r1:Wr l.h w W1:=by rw[hW1];exact Wr.set _ _ _ _
 rw[<-hW1];clear hW1 c z s hb;have k9:=j1.cell 9;have k1:=j1.cell 1;have k2:=j1.cell 2;have k3:=j1.cell 3;simp at k9 k1 k2 k3;have hn1:=World.new_ne W1 ⟨l.h,9,none⟩ k9;have s1:=j1.lt;have z1:=j1.free;go_cut [](fun wx=>Am wx l.h #[Ag (some ⟨l.a,0,none⟩),I Z 1,I Z sz,I Z 1,I Z (1+(sz:Int)),I Z sz,I Z tp,vo,vc,I Z 0,.bool false,I Z owd,I Z Ci,I Z srl,vw,vf] 185/\Wr l.h W1 wx)
 case first =>
  go_region_with (first|(go_at_call 187;refine (HE.out _).mono ?_;rintro e w4 ⟨rfl,hb4⟩;have j4:=Am.below (qi j1) hb4 (qi j1).lt;have c4:=j4.cell;have z4:=j4.free;have s4:=j4.lt)|fail)
  all_goals
   go_wp2_with fail;go_meet;exact⟨by simpa using ((j4.set 1 _).set 2 _).set 3 _,(((Wr.of_below (qe (qc W1))).trans (Wr.of_below hb4)).trans (Wr.set _ _ _ _)).trans ((Wr.set _ _ _ _).trans (Wr.set _ _ _ _))⟩
 case rest =>
  obtain⟨j2,r2⟩:=hcut;have R2:=Qa (r1.trans r2);clear k9 k1 k2 k3 hn1 s1 z1 r1 r2 j1;have c:=j2.cell;have z:=j2.free;have s:=j2.lt;go_upto_region 6 with fail;go_region;go_wp2_with fail;obtain⟨W4,hW4⟩:∃ W,W=((wc.setCell ⟨l.h,7,none⟩ (Ah none 0 0)).setCell ⟨l.h,10,none⟩ (.bool true)).drew:=⟨_,rfl⟩;have j4:Am W4 l.h #[Ag (some ⟨l.a,0,none⟩),I Z 1,I Z sz,I Z 1,I Z (1+(sz:Int)),I Z sz,I Z tp,Ah none 0 0,vc,I Z 0,.bool true,I Z owd,I Z Ci,I Z srl,vw,vf] 185:=by rw[hW4];exact qi (by simpa using (j2.set 7 (Ah none 0 0)).set 10 (.bool true))
  have r4:Wr l.h wc W4:=by rw[hW4];exact ((Wr.set _ _ _ _).trans (Wr.set _ _ _ _)).trans (Wr.of_below (qe (qc _)))
  rw[<-hW4];clear hW4 c z s j2;refine (HU.out _).mono ?_
  rintro e w5 ⟨rfl,hb5⟩
  have j5:=j4.below hb5 j4.lt;have r5:=r4.BG hb5;clear hb5 j4 r4;have c:=j5.cell;have z:=j5.free;have s:=j5.lt;go_upto_region 9 with fail;obtain⟨W6,hW6⟩:∃ W,W=w5.setCell ⟨l.h,11,none⟩ (I Z us):=⟨_,rfl⟩;have j6:Am W6 l.h #[Ag (some ⟨l.a,0,none⟩),I Z 1,I Z sz,I Z 1,I Z (1+(sz:Int)),I Z sz,I Z tp,Ah none 0 0,vc,I Z 0,.bool true,I Z us,I Z Ci,I Z srl,vw,vf] 185:=by rw[hW6];simpa using j5.set 11 (I Z us)
  have r6:Wr l.h wc W6:=by rw[hW6];exact r5.trans (Wr.set _ _ _ _)
  rw[<-hW6];clear hW6 c z s j5 r5;have c:=j6.cell;have z:=j6.free;have s:=j6.lt;go_region;go_wp2_with fail;go_ret;refine⟨rfl,qi (by simpa using j6.set 12 (I Z 1)),((R2.out.trans r6).trans (Wr.set _ _ _ _)).trans (Wr.of_below (qe (qc _)))⟩
theorem Jr (h:AE w o l H vc vo vw vf f) (hk:H.ok) (hm:H.AF=false) :
  Ab Tryz.prog 125 #[Ag (some ⟨l.h,0,none⟩)] w fun e w'=>e=O (.bool true)/\AE w' o l H.flip (Ah none 0 0) vc vw vf f/\Stp (zd l) o o w w':=by
 have hsz:=hk.sz;have hol:=dp _ _ _ hk.ol;have hot:=hk.ot;have htop:=vj hk;have hroom:=hk.room;have hb0:=H.BQ (!H.use);have hb1:=H.BQ H.use;rcases (show H.use=false\/H.use=true by cases H.use<;>simp) with hu|hu
 ·have e0:H.base H.use=1:=by rw[hu];rfl
  have e1:H.base (!H.use)=1+H.size:=by rw[hu];rfl
  have e2:((1+H.size:Nat):Int)=1+(H.size:Int):=by omega
  have hE:=fun W=>ml (b:=1+H.size) (s:=H.size) (t:=H.BD) ⟨by omega,by omega,by omega,by omega⟩ W
  have hU:=fun W=>yl (b:=1) (s:=H.size) (t:=H.top) ⟨by omega,by omega,by omega,by omega⟩ W
  unfold Dg at hE;rw[e2]at hE;have hb:=h.DX hu;rw[hm]at hb;refine (Mb hb hE hU).mono ?_
  rintro e w' ⟨rfl,j,r⟩
  have hs:Stp (fun t=>t=(l.id,0)) o o w w':=Stp.BR r h.oh
  refine⟨rfl,h.flipped ?_ hs,hs.mono (by rintro _ rfl;exact⟨rfl,by simp⟩)⟩
  have ec:H.flip.cells l.a (Ah none 0 0) vc vw vf=#[Ag (some ⟨l.a,0,none⟩),I Z 1,I Z H.size,I Z H.top,I Z (1+(H.size:Int)),I Z H.size,I Z (1+(H.size:Int)),vc,Ah none 0 0,I Z 1,.bool true,I Z ((H.top-1:Nat):Int),I Z (1+(H.size:Int)),I Z H.Ax,vw,vf]:=by
   unfold Hp.cells Hp.flip;simp only[hu,Bool.not_false,if_true];unfold Hp.base;simp
  rw[ec];exact j
 ·have e0:H.base H.use=1+H.size:=by rw[hu];rfl
  have e1:H.base (!H.use)=1:=by rw[hu];rfl
  have e2:((1+H.size:Nat):Int)=1+(H.size:Int):=by omega
  have hE:=fun W=>ml (b:=1) (s:=H.size) (t:=H.BD) ⟨by omega,by omega,by omega,by omega⟩ W
  have hU:=fun W=>yl (b:=1+H.size) (s:=H.size) (t:=H.top) ⟨by omega,by omega,by omega,by omega⟩ W
  unfold Dg at hU;rw[e2]at hU;have hb:=h.DZ hu;rw[hm]at hb;refine (LF hb hE hU).mono ?_
  rintro e w' ⟨rfl,j,r⟩
  have hs:Stp (fun t=>t=(l.id,0)) o o w w':=Stp.BR r h.oh
  refine⟨rfl,h.flipped ?_ hs,hs.mono (by rintro _ rfl;exact⟨rfl,by simp⟩)⟩
  have ec:H.flip.cells l.a (Ah none 0 0) vc vw vf=#[Ag (some ⟨l.a,0,none⟩),I Z 1,I Z H.size,I Z 1,I Z (1+(H.size:Int)),I Z H.size,I Z H.top,Ah none 0 0,vc,I Z 0,.bool true,I Z ((H.top-(1+H.size):Nat):Int),I Z 1,I Z H.Ax,vw,vf]:=by
   unfold Hp.cells Hp.flip;simp only[hu,Bool.not_true,Bool.false_eq_true,if_false];unfold Hp.base;simp
  rw[ec];exact j
end
end Go.Proofs.YteehgedabdchcaaGreat
