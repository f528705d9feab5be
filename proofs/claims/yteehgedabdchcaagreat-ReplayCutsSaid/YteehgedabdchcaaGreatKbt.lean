import Derived.Test.YteehgedabdchcaaGreatKam
set_option linter.all false
set_option maxRecDepth 1000000
set_option maxHeartbeats 0
open Go renaming World->Aa,Calls->Ab,Value->Ac
open Go.RowKit renaming Below->Ae
open Go.Value renaming int->I,pointer->Ag,slice->Ah,agg->Ak
open Go.IntKind renaming i64->Z
open Go.Ending renaming returned->O
open Go.Proofs.Tryz renaming prog->ARt
namespace Go.Proofs.YteehgedabdchcaaGreat
open Go.RowKit Hp
attribute [local go_sem ↓] Go.wp_at_zero Go.wp_at_succ
section
variable {w w' : Aa} {o : Own} {l : A7} {H : Hp} {vc vo vw vf : Ac} {f : Nat -> Nat}
def AA.flipped (h:AA w o l H vc vo vw vf f){w':Aa}(hb:Al w' l.h (H.flip.cells l.a (Ah none 0 0) vc vw vf) 185)(hs:Stp (fun t=>t=(l.id,0)) o o w w'):AA w' o l H.flip (Ah none 0 0) vc vw vf f:=by
 have hn:∀ j,j≠0->¬(l.id,j)=(l.id,0):=fun j hj e=>hj (by simpa using e)
 have hlen:H.flip.old.length=H.cur.length:=by simp[Hp.flip]
 have hmap:(H.flip.old.map fun x=>nv x.1)=H.cur.map fun x=>nv x.1:=by simp[Hp.flip,List.map_map,Function.comp_def]
 refine⟨hb,h.B6.Ao hs (by rw[h.oa];exact hn _ (by omega)) (by rw[h.ow];exact hn _ (by omega)),Row.nil _ _ _ _ _,?_,h.rw.Ao hs (hn _ (by omega)),h.rf.Ao hs (hn _ (by omega)),h.oh,h.oa,h.ow,fun x hx=>(by cases hx),fun x hx=>?_⟩
 ·rw[hlen,hmap]
  have:=h.rc.Ao hs (hn _ (by split<;>omega))
  have e:(if H.flip.use then 3 else 4)=(if H.use then 4 else 3):=by show (if !H.use then 3 else 4)=_;cases H.use<;>rfl
  rw[e];exact this
 ·obtain⟨z,hz,rfl⟩:=Qt.1 (show x ∈ H.cur.map _ from hx)
  exact⟨fun _=>h.E0 z hz,fun q hq=>by cases hq⟩
def L9 {sz tp eT dG Cd dE us:Nat}(hb:Al w l.h #[Ag (some ⟨l.a,0,none⟩),I Z 1,I Z sz,I Z tp,I Z (1+(sz:Int)),I Z sz,I Z eT,vc,vo,I Z 0,.bool false,I Z dG,I Z Cd,I Z dE,vw,vf] 185)
  (hE:∀ W,Ab ARt 187 #[Ak #[I Z (1+(sz:Int)),I Z sz,I Z eT]] W fun e w'=>e=O (Ak #[I Z (1+(sz:Int)),I Z sz,I Z (1+(sz:Int))])/\Ae W.1.size W w')
  (hU:∀ W,Ab ARt 188 #[Ak #[I Z 1,I Z sz,I Z tp]] W fun e w'=>e=O (I Z us)/\Ae W.1.size W w') :
  Ab ARt 125 #[Ag (some ⟨l.h,0,none⟩)] w fun e w'=>e=O (.bool true)/\Al w' l.h #[Ag (some ⟨l.a,0,none⟩),I Z 1,I Z sz,I Z tp,I Z (1+(sz:Int)),I Z sz,I Z (1+(sz:Int)),vc,Ah none 0 0,I Z 1,.bool true,I Z us,I Z (1+(sz:Int)),I Z dE,vw,vf] 185/\Wr l.h w w':=by
 have HE:=Qa hE;have HU:=Qa hU;clear hE hU;have c:=hb.cell;have z:=hb.free;have s:=hb.lt;go_enter Tryz.func125,Tryz.ntmps125;go_upto_region 5 with fail;obtain⟨W1,hW1⟩:=Ja0 (w.setCell ⟨l.h,9,none⟩ (I Z 1));have j1:Al W1 l.h #[Ag (some ⟨l.a,0,none⟩),I Z 1,I Z sz,I Z tp,I Z (1+(sz:Int)),I Z sz,I Z eT,vc,vo,I Z 1,.bool false,I Z dG,I Z Cd,I Z dE,vw,vf] 185:=by rw[hW1];exact hb.set 9 _
 have r1:Wr l.h w W1:=by rw[hW1];exact Wr.set _ _ _ _
 rw[<-hW1];clear hW1 c z s hb;have k9:=j1.cell 9;have k1:=j1.cell 4;have k2:=j1.cell 5;have k3:=j1.cell 6;simp at k9 k1 k2 k3;have hn1:=World.new_ne W1 ⟨l.h,9,none⟩ k9;have s1:=j1.lt;have z1:=j1.free;go_cut [](fun wx=>Al wx l.h #[Ag (some ⟨l.a,0,none⟩),I Z 1,I Z sz,I Z tp,I Z (1+(sz:Int)),I Z sz,I Z (1+(sz:Int)),vc,vo,I Z 1,.bool false,I Z dG,I Z Cd,I Z dE,vw,vf] 185/\Wr l.h W1 wx)
 case first =>
  go_region_with (first|(go_at_call 187;refine (HE.out _).mono ?_;rintro e w4 ⟨rfl,hb4⟩;have j4:=Al.below (qj j1) hb4 (qj j1).lt;have c4:=j4.cell;have z4:=j4.free;have s4:=j4.lt)|fail)
  all_goals
   go_wp2_with fail;go_meet;exact⟨by simpa using ((j4.set 4 _).set 5 _).set 6 _,(((Wr.of_below (qf (qd W1))).trans (Wr.of_below hb4)).trans (Wr.set _ _ _ _)).trans ((Wr.set _ _ _ _).trans (Wr.set _ _ _ _))⟩
 case rest =>
  obtain⟨j2,r2⟩:=hcut;have R2:=Qa (r1.trans r2);clear k9 k1 k2 k3 hn1 s1 z1 r1 r2 j1;have c:=j2.cell;have z:=j2.free;have s:=j2.lt;go_upto_region 6 with fail;go_region;go_wp2_with fail;obtain⟨W4,eD⟩:=Ja0 (((wc.setCell ⟨l.h,8,none⟩ (Ah none 0 0)).setCell ⟨l.h,10,none⟩ (.bool true)).drew);have j4:Al W4 l.h #[Ag (some ⟨l.a,0,none⟩),I Z 1,I Z sz,I Z tp,I Z (1+(sz:Int)),I Z sz,I Z (1+(sz:Int)),vc,Ah none 0 0,I Z 1,.bool true,I Z dG,I Z Cd,I Z dE,vw,vf] 185:=by rw[eD];exact qj (by simpa using (j2.set 8 (Ah none 0 0)).set 10 (.bool true))
  have r4:Wr l.h wc W4:=by rw[eD];exact ((Wr.set _ _ _ _).trans (Wr.set _ _ _ _)).trans (Wr.of_below (qf (qd _)))
  rw[<-eD];clear eD c z s j2;refine (HU.out _).mono ?_;rintro e w5 ⟨rfl,hb5⟩;have j5:=j4.below hb5 j4.lt;have r5:=r4.Bz hb5;clear hb5 j4 r4;have c:=j5.cell;have z:=j5.free;have s:=j5.lt;go_upto_region 9 with fail;obtain⟨W6,eF⟩:=Ja0 (w5.setCell ⟨l.h,11,none⟩ (I Z us));have j6:Al W6 l.h #[Ag (some ⟨l.a,0,none⟩),I Z 1,I Z sz,I Z tp,I Z (1+(sz:Int)),I Z sz,I Z (1+(sz:Int)),vc,Ah none 0 0,I Z 1,.bool true,I Z us,I Z Cd,I Z dE,vw,vf] 185:=by rw[eF];simpa using j5.set 11 (I Z us)
  have r6:Wr l.h wc W6:=by rw[eF];exact r5.trans (Wr.set _ _ _ _)
  rw[<-eF];clear eF c z s j5 r5;have c:=j6.cell;have z:=j6.free;have s:=j6.lt;go_region;go_wp2_with fail;go_ret;refine⟨rfl,qj (by simpa using j6.set 12 (I Z (1+(sz:Int)))),((R2.out.trans r6).trans (Wr.set _ _ _ _)).trans (Wr.of_below (qf (qd _)))⟩
def Md {sz tp eT dG Cd dE us:Nat}(hb:Al w l.h #[Ag (some ⟨l.a,0,none⟩),I Z 1,I Z sz,I Z eT,I Z (1+(sz:Int)),I Z sz,I Z tp,vo,vc,I Z 1,.bool false,I Z dG,I Z Cd,I Z dE,vw,vf] 185)
  (hE:∀ W,Ab ARt 187 #[Ak #[I Z 1,I Z sz,I Z eT]] W fun e w'=>e=O (Ak #[I Z 1,I Z sz,I Z 1])/\Ae W.1.size W w')
  (hU:∀ W,Ab ARt 188 #[Ak #[I Z (1+(sz:Int)),I Z sz,I Z tp]] W fun e w'=>e=O (I Z us)/\Ae W.1.size W w') :
  Ab ARt 125 #[Ag (some ⟨l.h,0,none⟩)] w fun e w'=>e=O (.bool true)/\Al w' l.h #[Ag (some ⟨l.a,0,none⟩),I Z 1,I Z sz,I Z 1,I Z (1+(sz:Int)),I Z sz,I Z tp,Ah none 0 0,vc,I Z 0,.bool true,I Z us,I Z 1,I Z dE,vw,vf] 185/\Wr l.h w w':=by
 have HE:=Qa hE;have HU:=Qa hU;clear hE hU;have c:=hb.cell;have z:=hb.free;have s:=hb.lt;go_enter Tryz.func125,Tryz.ntmps125;go_upto_region 5 with fail;obtain⟨W1,hW1⟩:=Ja0 (w.setCell ⟨l.h,9,none⟩ (I Z 0));have j1:Al W1 l.h #[Ag (some ⟨l.a,0,none⟩),I Z 1,I Z sz,I Z eT,I Z (1+(sz:Int)),I Z sz,I Z tp,vo,vc,I Z 0,.bool false,I Z dG,I Z Cd,I Z dE,vw,vf] 185:=by rw[hW1];exact hb.set 9 _
 have r1:Wr l.h w W1:=by rw[hW1];exact Wr.set _ _ _ _
 rw[<-hW1];clear hW1 c z s hb;have k9:=j1.cell 9;have k1:=j1.cell 1;have k2:=j1.cell 2;have k3:=j1.cell 3;simp at k9 k1 k2 k3;have hn1:=World.new_ne W1 ⟨l.h,9,none⟩ k9;have s1:=j1.lt;have z1:=j1.free;go_cut [](fun wx=>Al wx l.h #[Ag (some ⟨l.a,0,none⟩),I Z 1,I Z sz,I Z 1,I Z (1+(sz:Int)),I Z sz,I Z tp,vo,vc,I Z 0,.bool false,I Z dG,I Z Cd,I Z dE,vw,vf] 185/\Wr l.h W1 wx)
 case first =>
  go_region_with (first|(go_at_call 187;refine (HE.out _).mono ?_;rintro e w4 ⟨rfl,hb4⟩;have j4:=Al.below (qj j1) hb4 (qj j1).lt;have c4:=j4.cell;have z4:=j4.free;have s4:=j4.lt)|fail)
  all_goals
   go_wp2_with fail;go_meet;exact⟨by simpa using ((j4.set 1 _).set 2 _).set 3 _,(((Wr.of_below (qf (qd W1))).trans (Wr.of_below hb4)).trans (Wr.set _ _ _ _)).trans ((Wr.set _ _ _ _).trans (Wr.set _ _ _ _))⟩
 case rest =>
  obtain⟨j2,r2⟩:=hcut;have R2:=Qa (r1.trans r2);clear k9 k1 k2 k3 hn1 s1 z1 r1 r2 j1;have c:=j2.cell;have z:=j2.free;have s:=j2.lt;go_upto_region 6 with fail;go_region;go_wp2_with fail;obtain⟨W4,eD⟩:=Ja0 (((wc.setCell ⟨l.h,7,none⟩ (Ah none 0 0)).setCell ⟨l.h,10,none⟩ (.bool true)).drew);have j4:Al W4 l.h #[Ag (some ⟨l.a,0,none⟩),I Z 1,I Z sz,I Z 1,I Z (1+(sz:Int)),I Z sz,I Z tp,Ah none 0 0,vc,I Z 0,.bool true,I Z dG,I Z Cd,I Z dE,vw,vf] 185:=by rw[eD];exact qj (by simpa using (j2.set 7 (Ah none 0 0)).set 10 (.bool true))
  have r4:Wr l.h wc W4:=by rw[eD];exact ((Wr.set _ _ _ _).trans (Wr.set _ _ _ _)).trans (Wr.of_below (qf (qd _)))
  rw[<-eD];clear eD c z s j2;refine (HU.out _).mono ?_;rintro e w5 ⟨rfl,hb5⟩;have j5:=j4.below hb5 j4.lt;have r5:=r4.Bz hb5;clear hb5 j4 r4;have c:=j5.cell;have z:=j5.free;have s:=j5.lt;go_upto_region 9 with fail;obtain⟨W6,eF⟩:=Ja0 (w5.setCell ⟨l.h,11,none⟩ (I Z us));have j6:Al W6 l.h #[Ag (some ⟨l.a,0,none⟩),I Z 1,I Z sz,I Z 1,I Z (1+(sz:Int)),I Z sz,I Z tp,Ah none 0 0,vc,I Z 0,.bool true,I Z us,I Z Cd,I Z dE,vw,vf] 185:=by rw[eF];simpa using j5.set 11 (I Z us)
  have r6:Wr l.h wc W6:=by rw[eF];exact r5.trans (Wr.set _ _ _ _)
  rw[<-eF];clear eF c z s j5 r5;have c:=j6.cell;have z:=j6.free;have s:=j6.lt;go_region;go_wp2_with fail;go_ret;refine⟨rfl,qj (by simpa using j6.set 12 (I Z 1)),((R2.out.trans r6).trans (Wr.set _ _ _ _)).trans (Wr.of_below (qf (qd _)))⟩
def Hm (h:AA w o l H vc vo vw vf f) (hk:H.ok) (hm:H.AD=false) :
  Ab ARt 125 #[Ag (some ⟨l.h,0,none⟩)] w fun e w'=>e=O (.bool true)/\AA w' o l H.flip (Ah none 0 0) vc vw vf f/\Stp (zu l) o o w w':=by
 have hsz:=hk.sz;have hol:=bh _ _ _ hk.ol;have hot:=hk.ot;have htop:=ww hk;have hroom:=hk.room;have hb0:=H.BJ (!H.use);have hb1:=H.BJ H.use;rcases (show H.use=false\/H.use=true by cases H.use<;>simp) with hu|hu
 ·have e0:H.base H.use=1:=by rw[hu];rfl
  have e1:H.base (!H.use)=1+H.size:=by rw[hu];rfl
  have e2:((1+H.size:Nat):Int)=1+(H.size:Int):=by omega
  have hE:=fun W=>gz (b:=1+H.size) (s:=H.size) (t:=H.Bv) ⟨by omega,by omega,by omega,by omega⟩ W
  have hU:=fun W=>ur (b:=1) (s:=H.size) (t:=H.top) ⟨by omega,by omega,by omega,by omega⟩ W
  unfold CW at hE;rw[e2]at hE;have hb:=h.DG hu;rw[hm]at hb;refine (L9 hb hE hU).mono ?_;rintro e w' ⟨rfl,j,r⟩;have hs:Stp (fun t=>t=(l.id,0)) o o w w':=Stp.BE r h.oh;refine⟨rfl,h.flipped ?_ hs,hs.mono (by rintro _ rfl;exact⟨rfl,by simp⟩)⟩
  have ec:H.flip.cells l.a (Ah none 0 0) vc vw vf=#[Ag (some ⟨l.a,0,none⟩),I Z 1,I Z H.size,I Z H.top,I Z (1+(H.size:Int)),I Z H.size,I Z (1+(H.size:Int)),vc,Ah none 0 0,I Z 1,.bool true,I Z ((H.top-1:Nat):Int),I Z (1+(H.size:Int)),I Z H.Aw,vw,vf]:=by
   unfold Hp.cells Hp.flip;simp only[hu,Bool.not_false,if_true];unfold Hp.base;simp
  rw[ec];exact j
 ·have e0:H.base H.use=1+H.size:=by rw[hu];rfl
  have e1:H.base (!H.use)=1:=by rw[hu];rfl
  have e2:((1+H.size:Nat):Int)=1+(H.size:Int):=by omega
  have hE:=fun W=>gz (b:=1) (s:=H.size) (t:=H.Bv) ⟨by omega,by omega,by omega,by omega⟩ W
  have hU:=fun W=>ur (b:=1+H.size) (s:=H.size) (t:=H.top) ⟨by omega,by omega,by omega,by omega⟩ W
  unfold CW at hU;rw[e2]at hU;have hb:=h.DJ hu;rw[hm]at hb;refine (Md hb hE hU).mono ?_;rintro e w' ⟨rfl,j,r⟩;have hs:Stp (fun t=>t=(l.id,0)) o o w w':=Stp.BE r h.oh;refine⟨rfl,h.flipped ?_ hs,hs.mono (by rintro _ rfl;exact⟨rfl,by simp⟩)⟩
  have ec:H.flip.cells l.a (Ah none 0 0) vc vw vf=#[Ag (some ⟨l.a,0,none⟩),I Z 1,I Z H.size,I Z 1,I Z (1+(H.size:Int)),I Z H.size,I Z H.top,Ah none 0 0,vc,I Z 0,.bool true,I Z ((H.top-(1+H.size):Nat):Int),I Z 1,I Z H.Aw,vw,vf]:=by
   unfold Hp.cells Hp.flip;simp only[hu,Bool.not_true,Bool.false_eq_true,if_false];unfold Hp.base;simp
  rw[ec];exact j
