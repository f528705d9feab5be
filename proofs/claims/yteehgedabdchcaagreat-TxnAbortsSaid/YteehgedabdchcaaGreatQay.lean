import Derived.Test.YteehgedabdchcaaGreatQai
set_option linter.all false
set_option maxRecDepth 1000000
set_option maxHeartbeats 16000000
namespace Go.Proofs.YteehgedabdchcaaGreat
open Go.RowKit Hp
attribute [local go_sem ↓] Go.wp_at_zero Go.wp_at_succ
section
variable {w w' : World} {o : Own} {l : HLay} {H : Hp} {vc vo vw vf : Value} {f : Nat → Nat}
theorem HpIn.flipped (h:HpIn w o l H vc vo vw vf f){w':World}(hb:Blk w' l.h (H.flip.cells l.a (.slice none 0 0) vc vw vf) 185)(hs:Stp (fun t=>t=(l.id,0)) o o w w'):HpIn w' o l H.flip (.slice none 0 0) vc vw vf f:=by
 have hn:∀ j,j≠0→¬(l.id,j)=(l.id,0):=fun j hj e=>hj (by simpa using e)
 have hlen:H.flip.old.length=H.cur.length:=by simp[Hp.flip]
 have hmap:(H.flip.old.map fun x=>nv x.1)=H.cur.map fun x=>nv x.1:=by simp[Hp.flip,List.map_map,Function.comp_def]
 refine⟨hb,h.wds.stp hs (by rw[h.oa];exact hn _ (by omega)) (by rw[h.ow];exact hn _ (by omega)),Row.nil _ _ _ _ _,?_,h.rw.stp hs (hn _ (by omega)),h.rf.stp hs (hn _ (by omega)),h.oh,h.oa,h.ow,fun x hx=>(by cases hx),fun x hx=>?_,h.zr⟩
 ·rw[hlen,hmap]
  have:=h.rc.stp hs (hn _ (by split<;>omega))
  have e:(if H.flip.use then 3 else 4)=(if H.use then 4 else 3):=by show (if !H.use then 3 else 4)=_;cases H.use<;>rfl
  rw[e];exact this
 ·obtain⟨z,hz,rfl⟩:=List.mem_map.1 (show x ∈ H.cur.map _ from hx)
  exact⟨fun _=>h.obs z hz,fun q hq=>by cases hq⟩
theorem flip_fw {sz tp otp owd scn srl us:Nat}(hb:Blk w l.h #[.pointer (some ⟨l.a,0,none⟩),.int .i64 1,.int .i64 sz,.int .i64 tp,.int .i64 (1+(sz:Int)),.int .i64 sz,.int .i64 otp,vc,vo,.int .i64 0,.bool false,.int .i64 owd,.int .i64 scn,.int .i64 srl,vw,vf] 185)
  (hE:∀ W,Calls Tryz.prog 187 #[.agg #[.int .i64 (1+(sz:Int)),.int .i64 sz,.int .i64 otp]] W fun e w'=>e=.returned (.agg #[.int .i64 (1+(sz:Int)),.int .i64 sz,.int .i64 (1+(sz:Int))])∧Below W.heap.size W w')
  (hU:∀ W,Calls Tryz.prog 188 #[.agg #[.int .i64 1,.int .i64 sz,.int .i64 tp]] W fun e w'=>e=.returned (.int .i64 us)∧Below W.heap.size W w') :
  Calls Tryz.prog 125 #[.pointer (some ⟨l.h,0,none⟩)] w fun e w'=>e=.returned (.bool true)∧Blk w' l.h #[.pointer (some ⟨l.a,0,none⟩),.int .i64 1,.int .i64 sz,.int .i64 tp,.int .i64 (1+(sz:Int)),.int .i64 sz,.int .i64 (1+(sz:Int)),vc,.slice none 0 0,.int .i64 1,.bool true,.int .i64 us,.int .i64 (1+(sz:Int)),.int .i64 srl,vw,vf] 185∧Wr l.h w w':=by
 have HE:=Lib.hid hE;have HU:=Lib.hid hU;clear hE hU;have c:=hb.cell;have z:=hb.free;have s:=hb.lt;go_enter Tryz.func125,Tryz.ntmps125;go_upto_region 5 with fail;obtain⟨W1,hW1⟩:∃ W,W=w.setCell ⟨l.h,9,none⟩ (.int .i64 1):=⟨_,rfl⟩;have j1:Blk W1 l.h #[.pointer (some ⟨l.a,0,none⟩),.int .i64 1,.int .i64 sz,.int .i64 tp,.int .i64 (1+(sz:Int)),.int .i64 sz,.int .i64 otp,vc,vo,.int .i64 1,.bool false,.int .i64 owd,.int .i64 scn,.int .i64 srl,vw,vf] 185:=by rw[hW1];exact hb.set 9 _
 have r1:Wr l.h w W1:=by rw[hW1];exact Wr.set _ _ _ _
 rw[←hW1];clear hW1 c z s hb;have k9:=j1.cell 9;have k1:=j1.cell 4;have k2:=j1.cell 5;have k3:=j1.cell 6;simp at k9 k1 k2 k3;have hn1:=World.new_ne W1 ⟨l.h,9,none⟩ k9;have s1:=j1.lt;have z1:=j1.free;go_cut [](fun wx=>Blk wx l.h #[.pointer (some ⟨l.a,0,none⟩),.int .i64 1,.int .i64 sz,.int .i64 tp,.int .i64 (1+(sz:Int)),.int .i64 sz,.int .i64 (1+(sz:Int)),vc,vo,.int .i64 1,.bool false,.int .i64 owd,.int .i64 scn,.int .i64 srl,vw,vf] 185∧Wr l.h W1 wx)
 case first =>
  go_region_with (first|(go_at_call 187;refine (HE.out _).mono ?_;rintro e w4 ⟨rfl,hb4⟩;have j4:=Blk.below (drewB j1) hb4 (drewB j1).lt;have c4:=j4.cell;have z4:=j4.free;have s4:=j4.lt)|fail)
  all_goals
   go_wp2_with fail;go_meet;exact⟨by simpa using ((j4.set 4 _).set 5 _).set 6 _,(((Wr.of_below (bdrew (bsame W1))).trans (Wr.of_below hb4)).trans (Wr.set _ _ _ _)).trans ((Wr.set _ _ _ _).trans (Wr.set _ _ _ _))⟩
 case rest =>
  obtain⟨j2,r2⟩:=hcut;have R2:=Lib.hid (r1.trans r2);clear k9 k1 k2 k3 hn1 s1 z1 r1 r2 j1;have c:=j2.cell;have z:=j2.free;have s:=j2.lt;go_upto_region 6 with fail;go_region;go_wp2_with fail;obtain⟨W4,hW4⟩:∃ W,W=((wc.setCell ⟨l.h,8,none⟩ (.slice none 0 0)).setCell ⟨l.h,10,none⟩ (.bool true)).drew:=⟨_,rfl⟩;have j4:Blk W4 l.h #[.pointer (some ⟨l.a,0,none⟩),.int .i64 1,.int .i64 sz,.int .i64 tp,.int .i64 (1+(sz:Int)),.int .i64 sz,.int .i64 (1+(sz:Int)),vc,.slice none 0 0,.int .i64 1,.bool true,.int .i64 owd,.int .i64 scn,.int .i64 srl,vw,vf] 185:=by rw[hW4];exact drewB (by simpa using (j2.set 8 (.slice none 0 0)).set 10 (.bool true))
  have r4:Wr l.h wc W4:=by rw[hW4];exact ((Wr.set _ _ _ _).trans (Wr.set _ _ _ _)).trans (Wr.of_below (bdrew (bsame _)))
  rw[←hW4];clear hW4 c z s j2;refine (HU.out _).mono ?_
  rintro e w5 ⟨rfl,hb5⟩
  have j5:=j4.below hb5 j4.lt;have r5:=r4.below_then hb5;clear hb5 j4 r4;have c:=j5.cell;have z:=j5.free;have s:=j5.lt;go_upto_region 9 with fail;obtain⟨W6,hW6⟩:∃ W,W=w5.setCell ⟨l.h,11,none⟩ (.int .i64 us):=⟨_,rfl⟩;have j6:Blk W6 l.h #[.pointer (some ⟨l.a,0,none⟩),.int .i64 1,.int .i64 sz,.int .i64 tp,.int .i64 (1+(sz:Int)),.int .i64 sz,.int .i64 (1+(sz:Int)),vc,.slice none 0 0,.int .i64 1,.bool true,.int .i64 us,.int .i64 scn,.int .i64 srl,vw,vf] 185:=by rw[hW6];simpa using j5.set 11 (.int .i64 us)
  have r6:Wr l.h wc W6:=by rw[hW6];exact r5.trans (Wr.set _ _ _ _)
  rw[←hW6];clear hW6 c z s j5 r5;have c:=j6.cell;have z:=j6.free;have s:=j6.lt;go_region;go_wp2_with fail;go_ret;refine⟨rfl,drewB (by simpa using j6.set 12 (.int .i64 (1+(sz:Int)))),((R2.out.trans r6).trans (Wr.set _ _ _ _)).trans (Wr.of_below (bdrew (bsame _)))⟩
theorem flip_tw {sz tp otp owd scn srl us:Nat}(hb:Blk w l.h #[.pointer (some ⟨l.a,0,none⟩),.int .i64 1,.int .i64 sz,.int .i64 otp,.int .i64 (1+(sz:Int)),.int .i64 sz,.int .i64 tp,vo,vc,.int .i64 1,.bool false,.int .i64 owd,.int .i64 scn,.int .i64 srl,vw,vf] 185)
  (hE:∀ W,Calls Tryz.prog 187 #[.agg #[.int .i64 1,.int .i64 sz,.int .i64 otp]] W fun e w'=>e=.returned (.agg #[.int .i64 1,.int .i64 sz,.int .i64 1])∧Below W.heap.size W w')
  (hU:∀ W,Calls Tryz.prog 188 #[.agg #[.int .i64 (1+(sz:Int)),.int .i64 sz,.int .i64 tp]] W fun e w'=>e=.returned (.int .i64 us)∧Below W.heap.size W w') :
  Calls Tryz.prog 125 #[.pointer (some ⟨l.h,0,none⟩)] w fun e w'=>e=.returned (.bool true)∧Blk w' l.h #[.pointer (some ⟨l.a,0,none⟩),.int .i64 1,.int .i64 sz,.int .i64 1,.int .i64 (1+(sz:Int)),.int .i64 sz,.int .i64 tp,.slice none 0 0,vc,.int .i64 0,.bool true,.int .i64 us,.int .i64 1,.int .i64 srl,vw,vf] 185∧Wr l.h w w':=by
 have HE:=Lib.hid hE;have HU:=Lib.hid hU;clear hE hU;have c:=hb.cell;have z:=hb.free;have s:=hb.lt;go_enter Tryz.func125,Tryz.ntmps125;go_upto_region 5 with fail;obtain⟨W1,hW1⟩:∃ W,W=w.setCell ⟨l.h,9,none⟩ (.int .i64 0):=⟨_,rfl⟩;have j1:Blk W1 l.h #[.pointer (some ⟨l.a,0,none⟩),.int .i64 1,.int .i64 sz,.int .i64 otp,.int .i64 (1+(sz:Int)),.int .i64 sz,.int .i64 tp,vo,vc,.int .i64 0,.bool false,.int .i64 owd,.int .i64 scn,.int .i64 srl,vw,vf] 185:=by rw[hW1];exact hb.set 9 _
 have r1:Wr l.h w W1:=by rw[hW1];exact Wr.set _ _ _ _
 rw[←hW1];clear hW1 c z s hb;have k9:=j1.cell 9;have k1:=j1.cell 1;have k2:=j1.cell 2;have k3:=j1.cell 3;simp at k9 k1 k2 k3;have hn1:=World.new_ne W1 ⟨l.h,9,none⟩ k9;have s1:=j1.lt;have z1:=j1.free;go_cut [](fun wx=>Blk wx l.h #[.pointer (some ⟨l.a,0,none⟩),.int .i64 1,.int .i64 sz,.int .i64 1,.int .i64 (1+(sz:Int)),.int .i64 sz,.int .i64 tp,vo,vc,.int .i64 0,.bool false,.int .i64 owd,.int .i64 scn,.int .i64 srl,vw,vf] 185∧Wr l.h W1 wx)
 case first =>
  go_region_with (first|(go_at_call 187;refine (HE.out _).mono ?_;rintro e w4 ⟨rfl,hb4⟩;have j4:=Blk.below (drewB j1) hb4 (drewB j1).lt;have c4:=j4.cell;have z4:=j4.free;have s4:=j4.lt)|fail)
  all_goals
   go_wp2_with fail;go_meet;exact⟨by simpa using ((j4.set 1 _).set 2 _).set 3 _,(((Wr.of_below (bdrew (bsame W1))).trans (Wr.of_below hb4)).trans (Wr.set _ _ _ _)).trans ((Wr.set _ _ _ _).trans (Wr.set _ _ _ _))⟩
 case rest =>
  obtain⟨j2,r2⟩:=hcut;have R2:=Lib.hid (r1.trans r2);clear k9 k1 k2 k3 hn1 s1 z1 r1 r2 j1;have c:=j2.cell;have z:=j2.free;have s:=j2.lt;go_upto_region 6 with fail;go_region;go_wp2_with fail;obtain⟨W4,hW4⟩:∃ W,W=((wc.setCell ⟨l.h,7,none⟩ (.slice none 0 0)).setCell ⟨l.h,10,none⟩ (.bool true)).drew:=⟨_,rfl⟩;have j4:Blk W4 l.h #[.pointer (some ⟨l.a,0,none⟩),.int .i64 1,.int .i64 sz,.int .i64 1,.int .i64 (1+(sz:Int)),.int .i64 sz,.int .i64 tp,.slice none 0 0,vc,.int .i64 0,.bool true,.int .i64 owd,.int .i64 scn,.int .i64 srl,vw,vf] 185:=by rw[hW4];exact drewB (by simpa using (j2.set 7 (.slice none 0 0)).set 10 (.bool true))
  have r4:Wr l.h wc W4:=by rw[hW4];exact ((Wr.set _ _ _ _).trans (Wr.set _ _ _ _)).trans (Wr.of_below (bdrew (bsame _)))
  rw[←hW4];clear hW4 c z s j2;refine (HU.out _).mono ?_
  rintro e w5 ⟨rfl,hb5⟩
  have j5:=j4.below hb5 j4.lt;have r5:=r4.below_then hb5;clear hb5 j4 r4;have c:=j5.cell;have z:=j5.free;have s:=j5.lt;go_upto_region 9 with fail;obtain⟨W6,hW6⟩:∃ W,W=w5.setCell ⟨l.h,11,none⟩ (.int .i64 us):=⟨_,rfl⟩;have j6:Blk W6 l.h #[.pointer (some ⟨l.a,0,none⟩),.int .i64 1,.int .i64 sz,.int .i64 1,.int .i64 (1+(sz:Int)),.int .i64 sz,.int .i64 tp,.slice none 0 0,vc,.int .i64 0,.bool true,.int .i64 us,.int .i64 scn,.int .i64 srl,vw,vf] 185:=by rw[hW6];simpa using j5.set 11 (.int .i64 us)
  have r6:Wr l.h wc W6:=by rw[hW6];exact r5.trans (Wr.set _ _ _ _)
  rw[←hW6];clear hW6 c z s j5 r5;have c:=j6.cell;have z:=j6.free;have s:=j6.lt;go_region;go_wp2_with fail;go_ret;refine⟨rfl,drewB (by simpa using j6.set 12 (.int .i64 1)),((R2.out.trans r6).trans (Wr.set _ _ _ _)).trans (Wr.of_below (bdrew (bsame _)))⟩
theorem flip_any (h:HpIn w o l H vc vo vw vf f) (hk:H.ok) (hm:H.moving=false) :
  Calls Tryz.prog 125 #[.pointer (some ⟨l.h,0,none⟩)] w fun e w'=>e=.returned (.bool true)∧HpIn w' o l H.flip (.slice none 0 0) vc vw vf f∧Stp (hTag l) o o w w':=by
 have hsz:=hk.sz;have hol:=laid_le _ _ _ hk.ol;have hot:=hk.ot;have htop:=base_top hk;have hroom:=hk.room;have hb0:=H.base_bd (!H.use);have hb1:=H.base_bd H.use;rcases (show H.use=false∨H.use=true by cases H.use<;>simp) with hu|hu
 ·have e0:H.base H.use=1:=by rw[hu];rfl
  have e1:H.base (!H.use)=1+H.size:=by rw[hu];rfl
  have e2:((1+H.size:Nat):Int)=1+(H.size:Int):=by omega
  have hE:=fun W=>sempty_any (b:=1+H.size) (s:=H.size) (t:=H.otop) ⟨by omega,by omega,by omega,by omega⟩ W
  have hU:=fun W=>used_any (b:=1) (s:=H.size) (t:=H.top) ⟨by omega,by omega,by omega,by omega⟩ W
  unfold spV at hE;rw[e2]at hE;have hb:=h.cells_f' hu;rw[hm]at hb;refine (flip_fw hb hE hU).mono ?_
  rintro e w' ⟨rfl,j,r⟩
  have hs:Stp (fun t=>t=(l.id,0)) o o w w':=Stp.of_wr r h.oh
  refine⟨rfl,h.flipped ?_ hs,hs.mono (by rintro _ rfl;exact⟨rfl,by simp⟩)⟩
  have ec:H.flip.cells l.a (.slice none 0 0) vc vw vf=#[.pointer (some ⟨l.a,0,none⟩),.int .i64 1,.int .i64 H.size,.int .i64 H.top,.int .i64 (1+(H.size:Int)),.int .i64 H.size,.int .i64 (1+(H.size:Int)),vc,.slice none 0 0,.int .i64 1,.bool true,.int .i64 ((H.top-1:Nat):Int),.int .i64 (1+(H.size:Int)),.int .i64 H.serial,vw,vf]:=by
   unfold Hp.cells Hp.flip;simp only[hu,Bool.not_false,if_true];unfold Hp.base;simp
  rw[ec];exact j
 ·have e0:H.base H.use=1+H.size:=by rw[hu];rfl
  have e1:H.base (!H.use)=1:=by rw[hu];rfl
  have e2:((1+H.size:Nat):Int)=1+(H.size:Int):=by omega
  have hE:=fun W=>sempty_any (b:=1) (s:=H.size) (t:=H.otop) ⟨by omega,by omega,by omega,by omega⟩ W
  have hU:=fun W=>used_any (b:=1+H.size) (s:=H.size) (t:=H.top) ⟨by omega,by omega,by omega,by omega⟩ W
  unfold spV at hU;rw[e2]at hU;have hb:=h.cells_t' hu;rw[hm]at hb;refine (flip_tw hb hE hU).mono ?_
  rintro e w' ⟨rfl,j,r⟩
  have hs:Stp (fun t=>t=(l.id,0)) o o w w':=Stp.of_wr r h.oh
  refine⟨rfl,h.flipped ?_ hs,hs.mono (by rintro _ rfl;exact⟨rfl,by simp⟩)⟩
  have ec:H.flip.cells l.a (.slice none 0 0) vc vw vf=#[.pointer (some ⟨l.a,0,none⟩),.int .i64 1,.int .i64 H.size,.int .i64 1,.int .i64 (1+(H.size:Int)),.int .i64 H.size,.int .i64 H.top,.slice none 0 0,vc,.int .i64 0,.bool true,.int .i64 ((H.top-(1+H.size):Nat):Int),.int .i64 1,.int .i64 H.serial,vw,vf]:=by
   unfold Hp.cells Hp.flip;simp only[hu,Bool.not_true,Bool.false_eq_true,if_false];unfold Hp.base;simp
  rw[ec];exact j
end
end Go.Proofs.YteehgedabdchcaaGreat
