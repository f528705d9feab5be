import Derived.Test.YteehgedabdchcaaGreatQae
set_option linter.all false
set_option maxRecDepth 1000000
set_option maxHeartbeats 16000000
namespace Go.Proofs.YteehgedabdchcaaGreat
open Go.RowKit Hp
section
variable {w : World} {o : Own} {l : HLay} {H : Hp} {vc vo vw vf : Value} {f : Nat → Nat}
theorem spaces_apart (H:Hp):H.base H.use+H.size≤H.base (!H.use)∨H.base (!H.use)+H.size≤H.base H.use:=by
 unfold Hp.base
 cases H.use<;>simp<;>omega
theorem old_apart (hk:H.ok){x y:Nat×Ob×Option Nat}(hx:x ∈ H.old)(hy:y ∈ H.old)(hne:x.1≠y.1):x.1+rnd x.2.1.size≤y.1∨y.1+rnd y.2.1.size≤x.1:=
 laid_apart _ _ _ hk.ol hk.ok (x.1,x.2.1) (List.mem_map.2 ⟨x,hx,rfl⟩) (y.1,y.2.1) (List.mem_map.2 ⟨y,hy,rfl⟩) hne
theorem old_in (hk:H.ok){x:Nat×Ob×Option Nat}(hx:x ∈ H.old):x.2.1.ok∧H.base (!H.use)≤x.1∧x.1+rnd x.2.1.size≤H.base (!H.use)+H.size:=by
 have hm:(x.1,x.2.1) ∈ H.olds:=List.mem_map.2 ⟨x,hx,rfl⟩;have h1:=laid_mem _ _ _ hk.ol _ hm;have h4:=hk.ot;simp only at h1;exact⟨hk.ok _ hm,h1.1,by omega⟩
theorem HpIn.went (h:HpIn w o l H vc vo vw vf f)(hk:H.ok){p:Nat}{ob:Ob}(hp:lko H.old p=some (ob,none)){w':World}{o':Own}{vc':Value}
  (hb:Blk w' l.h ((H.moved p).1.cells l.a vc' vo vw vf) 185)(hw:Wds w' l.a l.wd (2*H.size+1) (copF f p H.top ob.size))
  (rc:Row w' o' (l.tc H.use) 3 1 vc' (H.cur.length+1) ((H.cur.map fun x=>nv x.1)++[nv H.top]))(ro:Row w' o' (l.to' H.use) 3 1 vo H.old.length (H.old.map fun x=>nv x.1))
  (rw':Row w' o' (l.id,5) 3 1 vw H.weak.length (H.weak.map nv))(rf:Row w' o' (l.id,6) 3 1 vf H.final.length (H.final.map nv))
  (ht:∀ b,b<w.heap.size→o' b=o b):HpIn w' o' l (H.moved p).1 vc' vo vw vf (copF f p H.top ob.size):=by
 obtain⟨ho,b1,b2,_⟩:=old_ob hk hp;have hrd:=rnd_ge _ (Ob.size_bd ho).2;have how:=owes_ge hp;have hroom:=hk.room;have howe:=hk.owe;have htop:=base_top hk;have hsp:=spaces_apart H;have hpm:=lko_mem hp;rw[H.moved_new hp]at hb ⊢;refine⟨hb,hw,?_,?_,rw',rf,(ht _ h.hb.lt).trans h.oh,(ht _ h.wds.arena.lt).trans h.oa,(ht _ h.wds.lt).trans h.ow,?_,?_,?_⟩
 ·show Row w' o' (l.id,if H.use then 4 else 3) _ 1 vc' (H.cur++[(H.top,ob)]).length ((H.cur++[(H.top,ob)]).map fun x=>nv x.1)
  have rc':Row w' o' (l.id,if H.use then 4 else 3) _ 1 vc' _ _:=rc
  simpa using rc'
 ·show Row w' o' (l.id,if H.use then 3 else 4) _ 1 vo (goneTo H.old p H.top).length ((goneTo H.old p H.top).map fun x=>nv x.1)
  have e:(goneTo H.old p H.top).map (fun x=>nv x.1)=H.old.map fun x=>nv x.1:=by
   have:=congrArg (List.map nv) (goneTo_keys H.old p H.top);simpa [List.map_map,Function.comp_def] using this
  rw[e,goneTo_len];exact ro
 ·intro x hx
  rcases List.mem_append.1 (show x ∈ H.cur++[(H.top,ob)] from hx) with hx|hx
  ·have h3:=laid_mem _ _ _ hk.cl x hx
   have h4:=rnd_ge _ (Ob.size_bd (hk.ck x hx)).2;have h5:=Hp.apart hk hx hpm;refine (h.obs x hx).of_eq (hk.ck x hx) fun j h1 h2=>copF_other (.inl (by omega)) ?_
   simp only at h5;omega
  ·rw[List.mem_singleton.1 hx]
   exact ((h.olds _ hpm).1 rfl).copied ho (by simp only;omega)
 ·intro x hx
  obtain⟨z,hz,rfl⟩:=List.mem_map.1 (show x ∈ H.old.map _ from hx);obtain⟨k1,k2,k3⟩:=old_in hk hz;have hrz:=rnd_ge _ (Ob.size_bd k1).2;split
  ·rename_i e
   refine⟨fun hn=>by simp at hn,fun q hq=>?_⟩
   simp only[Option.some.injEq]at hq;subst hq;rw[e];exact copF_at _ _ _ _
  ·rename_i e
   have ha:=old_apart hk hz hpm (by simpa using e)
   simp only at ha;refine⟨fun hn=>((h.olds z hz).1 hn).of_eq k1 fun j h1 h2=>copF_other (by omega) (by omega),fun q hq=>?_⟩
   rw[copF_other (by omega) e]
   exact (h.olds z hz).2 q hq
 ·have:=H.base_bd H.use
  have:=H.base_bd !H.use;rw[copF_other (by omega) (by omega)];exact h.zr
end
end Go.Proofs.YteehgedabdchcaaGreat
namespace Go.Proofs.YteehgedabdchcaaGreat
open Go.RowKit Hp
attribute [local go_sem ↓] Go.wp_at_zero Go.wp_at_succ
theorem moved_no {w:World}{v:Value}{p:Nat}(hth:Calls Tryz.prog 172 #[v,.int .i64 p] w fun e w'=>e=.returned (.bool false)∧Below w.heap.size w w') :
  Calls Tryz.prog 173 #[v,.int .i64 p] w fun e w'=>e=.returned (.int .i64 p)∧Below w.heap.size w w':=by
 have HT:=Lib.hid hth;clear hth;go_enter Tryz.func173,Tryz.ntmps173;go_wp2_with fail;refine HT.out.mono ?_
 rintro e w1⟨rfl,hb1⟩
 go_wp2_with fail;go_ret;exact⟨rfl,hb1⟩
theorem moved_gone_f {w:World}{l:HLay}{vc vo vw vf:Value}{sz tp otp owd scn srl p q:Nat}{mvg:Bool}(hb:Blk w l.h #[.pointer (some ⟨l.a,0,none⟩),.int .i64 1,.int .i64 sz,.int .i64 tp,.int .i64 (1+(sz:Int)),.int .i64 sz,.int .i64 otp,vc,vo,.int .i64 0,.bool mvg,.int .i64 owd,.int .i64 scn,.int .i64 srl,vw,vf] 185)
  (hth:Calls Tryz.prog 172 #[.pointer (some ⟨l.h,0,none⟩),.int .i64 p] w fun e w'=>e=.returned (.bool true)∧Below w.heap.size w w')
  (hcp:∀ W,Below w.heap.size w W→Calls Tryz.prog 235 #[.pointer (some ⟨l.a,0,none⟩),.int .i64 p,.agg #[.int .i64 1,.int .i64 sz,.int .i64 tp]] W fun e w'=>e=.returned (.tuple #[.agg #[.int .i64 1,.int .i64 sz,.int .i64 tp],.int .i64 q,.int .i64 0])∧Below W.heap.size W w') :
  Calls Tryz.prog 173 #[.pointer (some ⟨l.h,0,none⟩),.int .i64 p] w fun e w'=>e=.returned (.int .i64 q)∧Below w.heap.size w w':=by
 have HT:=Lib.hid hth;have HC:=Lib.hid hcp;clear hth hcp;go_enter Tryz.func173,Tryz.ntmps173;go_wp2_with fail;refine HT.out.mono ?_
 rintro e w1 ⟨rfl,hb1⟩
 have jH:=hb.below hb1 hb.lt;have c:=jH.cell;have s1:=jH.lt;go_upto_region 3 with fail;have k9:=c 9;have k1:=c 1;have k2:=c 2;have k3:=c 3;simp at k9 k1 k2 k3;have hnw:=World.new_ne w1 ⟨l.h,9,none⟩ k9;go_region_held3 (fun w'=>w'.cell? ⟨l.h,9,none⟩=some (.int .i64 0)∧w'.cell? ⟨l.h,1,none⟩=some (.int .i64 1)∧w'.cell? ⟨l.h,2,none⟩=some (.int .i64 sz)∧w'.cell? ⟨l.h,3,none⟩=some (.int .i64 tp)) (go_keep) (fail)
 clear c s1 k9 k1 k2 k3 hnw HT;obtain⟨W2,hW2⟩:∃ W,W=(w1.alloc (.cells #[.int .i64 1,.int .i64 sz,.int .i64 tp] 181)).drew:=⟨_,rfl⟩;have bW2:Below w.heap.size w W2:=by rw[hW2];exact bdrew (balloc hb1 _)
 have jH2:Blk W2 l.h #[.pointer (some ⟨l.a,0,none⟩),.int .i64 1,.int .i64 sz,.int .i64 tp,.int .i64 (1+(sz:Int)),.int .i64 sz,.int .i64 otp,vc,vo,.int .i64 0,.bool mvg,.int .i64 owd,.int .i64 scn,.int .i64 srl,vw,vf] 185:=by rw[hW2];exact drewB (jH.alloc _)
 have jS2:Blk W2 w1.heap.size #[.int .i64 1,.int .i64 sz,.int .i64 tp] 181:=by rw[hW2];exact drewB (Blk.new _ _ _)
 rw[←hW2];obtain⟨bS,hbS⟩:∃ b,b=w1.heap.size:=⟨_,rfl⟩;rw[←hbS]at jS2 ⊢;clear hW2 hbS hb1 jH hb;have cH:=jH2.cell;have cS:=jS2.cell;have sH:=jH2.lt;have sS:=jS2.lt;go_upto_region 4 with fail;go_cut [6,7,8] (fun t6 t7 t8 wx=>∃ Bx,t6=.pointer (some ⟨Bx,0,none⟩)∧t7=.int .i64 q∧t8=.int .i64 0∧Blk wx Bx #[.int .i64 1,.int .i64 sz,.int .i64 tp] 181∧Below W2.heap.size W2 wx)
 case first =>
  go_region_with (first|(go_at_call 235;refine (HC.out _ (by first|exact bdrew bW2|exact bdrew (balloc bW2 _)|exact balloc (bdrew bW2) _)).mono ?_;rintro e w4 ⟨rfl,hb4⟩;try (have jB4:Blk w4 W2.heap.size #[.int .i64 0,.int .i64 0,.int .i64 0] 181:=Blk.below (drewB (Blk.new W2 _ _)) hb4 (by simp);have cB4:=jB4.cell;have zB4:=jB4.free;have sB4:=jB4.lt))|fail)
  all_goals
   go_wp2_with fail;go_meet;first
    | exact⟨_,rfl,rfl,rfl,Blk.new _ _ _,balloc (btrans (bdrew (bsame W2)) hb4) _⟩
    | exact⟨W2.heap.size,rfl,rfl,rfl,by simpa using ((jB4.set 0 _).set 1 _).set 2 _,bset (bset (bset (btrans (bdrew (balloc (bsame W2) _)) hb4) (Nat.le_refl _) _) (Nat.le_refl _) _) (Nat.le_refl _) _⟩
 case rest =>
  obtain⟨Bx,rfl,rfl,rfl,jB,hbx⟩:=hcut;have hfin:=Lib.hid (btrans bW2 hbx);have cB:=jB.cell;have cS:=(jS2.below hbx jS2.lt).cell;clear jH2 jS2 cH HC bW2 hbx jB;go_wp2_with fail;go_ret;exact⟨rfl,hfin.out⟩
theorem moved_gone_t {w:World}{l:HLay}{vc vo vw vf:Value}{sz tp otp owd scn srl p q:Nat}{mvg:Bool}(hb:Blk w l.h #[.pointer (some ⟨l.a,0,none⟩),.int .i64 1,.int .i64 sz,.int .i64 otp,.int .i64 (1+(sz:Int)),.int .i64 sz,.int .i64 tp,vo,vc,.int .i64 1,.bool mvg,.int .i64 owd,.int .i64 scn,.int .i64 srl,vw,vf] 185)
  (hth:Calls Tryz.prog 172 #[.pointer (some ⟨l.h,0,none⟩),.int .i64 p] w fun e w'=>e=.returned (.bool true)∧Below w.heap.size w w')
  (hcp:∀ W,Below w.heap.size w W→Calls Tryz.prog 235 #[.pointer (some ⟨l.a,0,none⟩),.int .i64 p,.agg #[.int .i64 (1+(sz:Int)),.int .i64 sz,.int .i64 tp]] W fun e w'=>e=.returned (.tuple #[.agg #[.int .i64 (1+(sz:Int)),.int .i64 sz,.int .i64 tp],.int .i64 q,.int .i64 0])∧Below W.heap.size W w') :
  Calls Tryz.prog 173 #[.pointer (some ⟨l.h,0,none⟩),.int .i64 p] w fun e w'=>e=.returned (.int .i64 q)∧Below w.heap.size w w':=by
 have HT:=Lib.hid hth;have HC:=Lib.hid hcp;clear hth hcp;go_enter Tryz.func173,Tryz.ntmps173;go_wp2_with fail;refine HT.out.mono ?_
 rintro e w1 ⟨rfl,hb1⟩
 have jH:=hb.below hb1 hb.lt;have c:=jH.cell;have s1:=jH.lt;go_upto_region 3 with fail;have k9:=c 9;have k1:=c 4;have k2:=c 5;have k3:=c 6;simp at k9 k1 k2 k3;have hnw:=World.new_ne w1 ⟨l.h,9,none⟩ k9;go_region_held3 (fun w'=>w'.cell? ⟨l.h,9,none⟩=some (.int .i64 1)∧w'.cell? ⟨l.h,4,none⟩=some (.int .i64 (1+(sz:Int)))∧w'.cell? ⟨l.h,5,none⟩=some (.int .i64 sz)∧w'.cell? ⟨l.h,6,none⟩=some (.int .i64 tp)) (go_keep) (fail)
 clear c s1 k9 k1 k2 k3 hnw HT;obtain⟨W2,hW2⟩:∃ W,W=(w1.alloc (.cells #[.int .i64 (1+(sz:Int)),.int .i64 sz,.int .i64 tp] 181)).drew:=⟨_,rfl⟩;have bW2:Below w.heap.size w W2:=by rw[hW2];exact bdrew (balloc hb1 _)
 have jH2:Blk W2 l.h #[.pointer (some ⟨l.a,0,none⟩),.int .i64 1,.int .i64 sz,.int .i64 otp,.int .i64 (1+(sz:Int)),.int .i64 sz,.int .i64 tp,vo,vc,.int .i64 1,.bool mvg,.int .i64 owd,.int .i64 scn,.int .i64 srl,vw,vf] 185:=by rw[hW2];exact drewB (jH.alloc _)
 have jS2:Blk W2 w1.heap.size #[.int .i64 (1+(sz:Int)),.int .i64 sz,.int .i64 tp] 181:=by rw[hW2];exact drewB (Blk.new _ _ _)
 rw[←hW2];obtain⟨bS,hbS⟩:∃ b,b=w1.heap.size:=⟨_,rfl⟩;rw[←hbS]at jS2 ⊢;clear hW2 hbS hb1 jH hb;have cH:=jH2.cell;have cS:=jS2.cell;have sH:=jH2.lt;have sS:=jS2.lt;go_upto_region 4 with fail;go_cut [6,7,8] (fun t6 t7 t8 wx=>∃ Bx,t6=.pointer (some ⟨Bx,0,none⟩)∧t7=.int .i64 q∧t8=.int .i64 0∧Blk wx Bx #[.int .i64 (1+(sz:Int)),.int .i64 sz,.int .i64 tp] 181∧Below W2.heap.size W2 wx)
 case first =>
  go_region_with (first|(go_at_call 235;refine (HC.out _ (by first|exact bdrew bW2|exact bdrew (balloc bW2 _)|exact balloc (bdrew bW2) _)).mono ?_;rintro e w4 ⟨rfl,hb4⟩;try (have jB4:Blk w4 W2.heap.size #[.int .i64 0,.int .i64 0,.int .i64 0] 181:=Blk.below (drewB (Blk.new W2 _ _)) hb4 (by simp);have cB4:=jB4.cell;have zB4:=jB4.free;have sB4:=jB4.lt))|fail)
  all_goals
   go_wp2_with fail;go_meet;first
    | exact⟨_,rfl,rfl,rfl,Blk.new _ _ _,balloc (btrans (bdrew (bsame W2)) hb4) _⟩
    | exact⟨W2.heap.size,rfl,rfl,rfl,by simpa using ((jB4.set 0 _).set 1 _).set 2 _,bset (bset (bset (btrans (bdrew (balloc (bsame W2) _)) hb4) (Nat.le_refl _) _) (Nat.le_refl _) _) (Nat.le_refl _) _⟩
 case rest =>
  obtain⟨Bx,rfl,rfl,rfl,jB,hbx⟩:=hcut;have hfin:=Lib.hid (btrans bW2 hbx);have cB:=jB.cell;have cS:=(jS2.below hbx jS2.lt).cell;clear jH2 jS2 cH HC bW2 hbx jB;go_wp2_with fail;go_ret;exact⟨rfl,hfin.out⟩
end Go.Proofs.YteehgedabdchcaaGreat
