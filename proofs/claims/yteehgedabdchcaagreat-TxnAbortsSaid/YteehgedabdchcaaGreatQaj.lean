import Derived.Test.YteehgedabdchcaaGreatQai
set_option linter.all false
set_option maxRecDepth 1000000
set_option maxHeartbeats 16000000
namespace Go.Proofs.YteehgedabdchcaaGreat
open Go.RowKit Hp
attribute [local go_sem ↓] Go.wp_at_zero Go.wp_at_succ
theorem len_ok {n:Nat}(h:n≤4096):n+1≤maxLen∧(n+1)*8≤140737488355328:=by
 simp only[maxLen];omega
theorem len_ok40 {n:Nat}(h:n≤1099511627776):n+1≤maxLen∧(n+1)*8≤140737488355328:=by
 simp only[maxLen];omega
section
variable {w : World} {o : Own} {l : HLay} {H : Hp} {vc vo vw vf : Value} {f : Nat → Nat}
theorem HpIn.cells_t (h:HpIn w o l H vc vo vw vf f)(hu:H.use=true):Blk w l.h #[.pointer (some ⟨l.a,0,none⟩),.int .i64 1,.int .i64 H.size,.int .i64 H.otop,.int .i64 (1+(H.size:Int)),.int .i64 H.size,.int .i64 H.top,vo,vc,.int .i64 1,.bool H.moving,.int .i64 H.owed,.int .i64 H.scan,.int .i64 H.serial,vw,vf] 185:=by
 have hb:=h.hb;unfold Hp.cells at hb;rw[hu,if_pos rfl]at hb;exact hb
theorem Hp.base_f {H:Hp}(hu:H.use=false):H.base H.use=1:=by rw[hu];rfl
theorem Hp.base_t {H:Hp}(hu:H.use=true):H.base H.use=1+H.size:=by rw[hu];rfl
theorem room_fg (h:HpIn w o l H vc vo vw vf f) (hk:H.ok) (hu:H.use=false) :
  Calls Tryz.prog 156 #[.pointer (some ⟨l.h,0,none⟩)] w fun e w'=>e=.returned (.int .i64 (H.left:Nat))∧Below w.heap.size w w':=by
 have hb:=h.cells_f hu;have htop:=base_top hk;have hroom:=hk.room;have hs:=hk.sz;unfold Hp.left;rw[Hp.base_f hu]at htop hroom ⊢;obtain⟨sz,use,cur,top,mv,old,otop,owed,scan,serial,weak,final⟩:=H;simp only at hb hs htop hroom ⊢;have HL:=Lib.hid (fun w=>left_any (b:=1) (s:=sz) (t:=top) ⟨by omega,by omega,by omega,by omega⟩ w)
 obtain⟨r,hr⟩:∃ r:Nat,r=1+sz-top:=⟨_,rfl⟩;obtain⟨q,hq⟩:∃ q:Nat,q=1+sz-top-owed:=⟨_,rfl⟩;have e1:IntKind.i64.wrap ((r:Int)-(owed:Int))=(q:Int):=by rw[IntWalk.i64_in _ (by omega)];omega
 rw[←hr]at HL;rw[←hq];have HL:=Lib.hid (show ∀ w:World,Calls Tryz.prog 219 #[.agg #[.int .i64 1,.int .i64 sz,.int .i64 top]] w fun e w'=>e=.returned (.int .i64 r)∧Below w.heap.size w w' from by have:=HL.out;unfold spV at this;exact this)
 clear h hk hu hr hq htop hroom hs;have lA:=fun (e:Later w) (i:Nat)=>Later.cell hb e i
 go_enter Tryz.func156,Tryz.ntmps156;have cc:=hb.cell;go_upto_region 3 with fail;clear cc;refine wp_region_later (by kernel_rfl) (by kernel_rfl) ?_
 repeat (go_big_quiet_step ((go_at_call 219;exact later_of (HL.out _))))
 refine wpQuiet_nil ?_
 rintro _ ⟨⟨wt,hbt⟩,rfl⟩
 go_wp2_with fail;go_ret;exact⟨rfl,hbt⟩
theorem room_tg (h:HpIn w o l H vc vo vw vf f) (hk:H.ok) (hu:H.use=true) :
  Calls Tryz.prog 156 #[.pointer (some ⟨l.h,0,none⟩)] w fun e w'=>e=.returned (.int .i64 (H.left:Nat))∧Below w.heap.size w w':=by
 have hb:=h.cells_t hu;have htop:=base_top hk;have hroom:=hk.room;have hs:=hk.sz;unfold Hp.left;rw[Hp.base_t hu]at htop hroom ⊢;obtain⟨sz,use,cur,top,mv,old,otop,owed,scan,serial,weak,final⟩:=H;simp only at hb hs htop hroom ⊢;have HL:=Lib.hid (fun w=>left_any (b:=1+sz) (s:=sz) (t:=top) ⟨by omega,by omega,by omega,by omega⟩ w)
 obtain⟨r,hr⟩:∃ r:Nat,r=1+sz+sz-top:=⟨_,rfl⟩;obtain⟨q,hq⟩:∃ q:Nat,q=1+sz+sz-top-owed:=⟨_,rfl⟩;have e1:IntKind.i64.wrap ((r:Int)-(owed:Int))=(q:Int):=by rw[IntWalk.i64_in _ (by omega)];omega
 rw[←hr]at HL;rw[←hq];have HL:=Lib.hid (show ∀ w:World,Calls Tryz.prog 219 #[.agg #[.int .i64 (1+(sz:Int)),.int .i64 sz,.int .i64 top]] w fun e w'=>e=.returned (.int .i64 r)∧Below w.heap.size w w' from by have:=HL.out;unfold spV at this;rw[show ((1+sz:Nat):Int)=1+(sz:Int) from by omega]at this;exact this)
 clear h hk hu hr hq htop hroom hs;have lA:=fun (e:Later w) (i:Nat)=>Later.cell hb e i
 go_enter Tryz.func156,Tryz.ntmps156;have cc:=hb.cell;go_upto_region 3 with fail;clear cc;refine wp_region_later (by kernel_rfl) (by kernel_rfl) ?_
 repeat (go_big_quiet_step ((go_at_call 219;exact later_of (HL.out _))))
 refine wpQuiet_nil ?_
 rintro _ ⟨⟨wt,hbt⟩,rfl⟩
 go_wp2_with fail;go_ret;exact⟨rfl,hbt⟩
theorem room_any (h:HpIn w o l H vc vo vw vf f)(hk:H.ok) :
  Calls Tryz.prog 156 #[.pointer (some ⟨l.h,0,none⟩)] w fun e w'=>e=.returned (.int .i64 (H.left:Nat))∧Below w.heap.size w w':=by
 cases hu:H.use
 ·exact room_fg h hk hu
 ·exact room_tg h hk hu
theorem HpIn.lay_any (h:HpIn w o l H vc vo vw vf f) (hw0:H.wf) (s:Shp) (hs:s.ok) (hroom:H.roomy s=true) {w':World} {o':Own} {vc' vw' vf':Value}
  (hb:Blk w' l.h ((H.lay s).cells l.a vc' vo vw' vf') 185) (hw:Wds w' l.a l.wd (2*H.size+1) (laidF f H.top s (H.serial+1)))
  (rc:Row w' o' (l.tc H.use) 3 1 vc' (H.cur.length+1) ((H.cur.map fun x=>nv x.1)++[nv H.top])) (ro:Row w' o' (l.to' H.use) 3 1 vo H.old.length (H.old.map fun x=>nv x.1))
  (rw':Row w' o' (l.id,5) 3 1 vw' (H.lay s).weak.length ((H.lay s).weak.map nv)) (rf:Row w' o' (l.id,6) 3 1 vf' (H.lay s).final.length ((H.lay s).final.map nv))
  (ht:∀ b,b<w.heap.size→o' b=o b):HpIn w' o' l (H.lay s) vc' vo vw' vf' (laidF f H.top s (H.serial+1)):=by
 have hk:=hw0.ok;unfold Hp.roomy Hp.left at hroom;simp only[Bool.and_eq_true,decide_eq_true_eq]at hroom;have hrd:=rnd_ge (3+s.p+s.d) (by have:=hs.1;have:=hs.2.1;omega)
 have hr:=hk.room;have htop:=base_top hk;have hsp:=spaces_apart H;refine⟨hb,hw,?_,?_,rw',rf,(ht _ h.hb.lt).trans h.oh,(ht _ h.wds.arena.lt).trans h.oa,(ht _ h.wds.lt).trans h.ow,?_,?_,?_⟩
 ·show Row w' o' (l.tc H.use) _ 1 vc' (H.cur++[(H.top,Ob.new s (H.serial+1))]).length ((H.cur++[(H.top,Ob.new s (H.serial+1))]).map fun x=>nv x.1)
  simpa using rc
 ·exact ro
 ·intro x hx
  rcases List.mem_append.1 (show x ∈ H.cur++[(H.top,Ob.new s (H.serial+1))] from hx) with hx|hx
  ·refine (h.obs x hx).of_eq (hk.ck x hx) fun j h1 h2=>laidF_other _ _ _ _ _ (.inl ?_)
   have h3:=laid_mem _ _ _ hk.cl x hx;have h4:=rnd_ge _ (Ob.size_bd (hk.ck x hx)).2;omega
  ·rw[List.mem_singleton.1 hx];exact ObAt.new _ _ _ _
 ·intro x hx
  obtain⟨k1,k2,k3⟩:=old_in hk hx;have h4:=rnd_ge _ (Ob.size_bd k1).2;have h5:=Ob.size_bd k1;refine⟨fun hn=>((h.olds x hx).1 hn).of_eq k1 fun j h1 h2=>laidF_other _ _ _ _ _ (by omega),fun q hq=>?_⟩
  rw[laidF_other _ _ _ _ _ (by omega)]
  exact (h.olds x hx).2 q hq
 ·have:=H.base_bd H.use
  rw[laidF_other _ _ _ _ _ (by omega)];exact h.zr
def HpLeft (w:World)(o:Own)(l:HLay)(H':Hp)(w':World):Prop:=∃ vc vo vw vf f o',HpIn w' o' l H' vc vo vw vf f∧Stp (hTag l) o o' w w'
theorem alloc_fg (h0:HpIn w o l H vc vo vw vf f) (hF:H.wf) (hu:H.use=false) (s:Shp) (hs:s.ok) (hr:H.roomy s=true) :
  Calls Tryz.prog 167 #[.pointer (some ⟨l.h,0,none⟩),shpV s] w fun e w'=>e=.returned (.tuple #[.int .i64 H.top,.int .i64 0])∧HpLeft w o l (H.lay s) w':=by
 obtain⟨o1,ho1⟩:∃ o1,o1=ext o w.heap.size (l.id+1,0):=⟨_,rfl⟩;have h:=h0.retag (o':=o1) fun b hb=>by rw[ho1];exact ext_lt hb
 have hS0:Stp (hTag l) o o1 w w:=by rw[ho1];exact (Stp.refl _ o w).ext _ _ (Nat.le_refl _)
 have hbx:o1 w.heap.size=(l.id+1,0):=by rw[ho1];exact ext_ge (Nat.le_refl _)
 clear ho1 h0;have hk:=hF.ok;have hcl:H.cur.length<16384:=by
  have h1:=laid_len _ _ _ hk.cl hk.ck;have h2:=hk.room;have h3:=hk.sz;omega
 have hHF:=Lib.hid hF;have hHr:=Lib.hid hr;have hHz:=Lib.hid hs;unfold Hp.roomy Hp.left at hr;simp only[Bool.and_eq_true,decide_eq_true_eq]at hr;obtain⟨hr,hser⟩:=hr;have hlf:(H.left:Nat)=H.base H.use+H.size-H.top-H.owed:=rfl;have hHs:=Lib.hid hser;clear hF;have hb:=h.cells_f hu;have htop:=base_top hk;have hroom:=hk.room;rw[Hp.base_f hu]at htop hroom hr hlf;have hrd:=rnd_ge (3+s.p+s.d) (by obtain⟨h1,h2,_⟩:=hs;omega)
 have hsz:=hk.sz;have hfit:H.top+rnd (3+s.p+s.d)+H.owed≤1+H.size:=by omega
 have HR:=Lib.hid (fun w' (hw:Below w.heap.size w w')=>room_any (h.below hw) hk)
 have HS:=Lib.hid (fun w=>hsize_any s hs w)
 have HN:=Lib.hid (fun w=>round_any (3+s.p+s.d) (by omega) (by obtain⟨h1,h2,_⟩:=hs;omega) _ rfl w)
 have HT:=(fun w=>take_any (b:=1) (s:=H.size) (t:=H.top) ⟨by omega,by omega,by omega,by omega⟩ (3+s.p+s.d) (by omega) (by obtain⟨h1,h2,_⟩:=hs;omega) (by omega) _ rfl w)
 skip;replace HT:=Lib.hid HT;have hng:¬((rnd (3+s.p+s.d):Nat):Int) > ((H.left:Nat):Int):=by omega
 have hse:(H.serial:Int)<1099511627776:=by omega
 have hHI:=Lib.hid h;have hHK:=Lib.hid hk;generalize hzz:rnd (3+s.p+s.d)=rn at *;generalize H.left=lft at HR hng;clear h hk hr hser hlf;have hse0:(0:Int)≤(H.serial:Int):=by omega
 have hss:((H.serial+1:Nat):Int)=(H.serial:Int)+1:=by omega
 generalize hE1:(H.serial:Int)=srl at hb hse hse0 hss;generalize hE2:H.size=sz at hb hsz HT htop hroom hfit;generalize hE3:H.top=tp at hb HT htop hroom hfit ⊢;generalize hE4:H.otop=otp at hb;generalize hE5:H.owed=owd at hb hroom hfit;generalize hE6:H.scan=scn at hb;generalize hE7:H.moving=mvg at hb;go_enter Tryz.func167,Tryz.ntmps167;have jS:=Blk.new w #[.int .i64 s.p,.int .i64 s.d,.bool s.weak,.bool s.final] 93;have cS:=jS.cell;go_wp2_with fail;refine (HS.out _).mono ?_
 rintro e w1 ⟨rfl,hb1⟩
 have hw1:=btrans (balloc (bsame w) _) hb1;have jS1:=jS.below hb1 jS.lt;clear hb1 cS;go_wp2_with fail;refine (HN.out _).mono ?_
 rintro e w2 ⟨rfl,hb2⟩
 have hw2:=btrans hw1 hb2;have jS2:=jS1.below hb2 jS1.lt;go_wp2_with fail;refine (HR.out _ hw2).mono ?_
 rintro e w3 ⟨rfl,hb3⟩
 have hw3:=btrans hw2 hb3;have jS3:=jS2.below hb3 jS2.lt;have jH3:=hb.below hw3 hb.lt;have cH:=jH3.cell;go_upto_region 7 with fail;have sH:=jH3.lt;clear jS2 jS1 hb3 hb2 HR HS HN;go_cut [7,10,11] (fun t7 t10 t11 wx=>∃ B,t10=.pointer (some ⟨B,0,none⟩)∧t11=.int .i64 tp∧t7=.bool true∧Blk wx B #[.int .i64 1,.int .i64 sz,.int .i64 ((tp+rn:Nat):Int)] 181∧Below w3.heap.size w3 wx∧w3.heap.size≤B)
 case first =>
  go_region_with (first|(go_at_call 228;refine (HT.out _).mono ?_;rintro e w4 ⟨rfl,hb4⟩;try (have jB4:Blk w4 w3.heap.size #[.int .i64 0,.int .i64 0,.int .i64 0] 181:=Blk.below (drewB (Blk.new w3 _ _)) hb4 (by simp);have cB4:=jB4.cell;have zB4:=jB4.free;have sB4:=jB4.lt))|fail)
  all_goals
   go_wp2_with fail;go_meet;first
    | exact⟨_,rfl,rfl,rfl,Blk.new_at _ _ _ _ _ rfl (by simp),balloc (btrans (bdrew (bsame w3)) hb4) _,hb4.size⟩
    | exact⟨w3.heap.size,rfl,rfl,rfl,by simpa using ((jB4.set 0 _).set 1 _).set 2 _,bset (bset (bset (btrans (bdrew (balloc (bsame w3) _)) hb4) (Nat.le_refl _) _) (Nat.le_refl _) _) (Nat.le_refl _) _,Nat.le_refl _⟩
 case rest =>
  clear cH sH HT;obtain⟨B,rfl,rfl,rfl,jB,hbw,hBge⟩:=hcut;have hw3s:=hw3.size;obtain⟨tr,htr⟩:∃ tr:Nat,tr=tp+rn:=⟨_,rfl⟩;rw[←htr]at jB;replace htr:=Lib.hid htr;have jHc:=jH3.below hbw jH3.lt;have jSc:=jS3.below hbw jS3.lt;have hwc:=btrans hw3 hbw;have HM:=Lib.hid (omake_any (hHI.out.wds.below (bdrew hwc)) s hs (at':=tp) (by have:=rnd_ge (3+s.p+s.d) (by obtain⟨h1,h2,_⟩:=hs;omega);rw[hE2];omega) (H.serial+1) (by have:=hHs.out;omega) _ _ rfl hss.symm)
  clear jH3 jS3 hbw hw3;have cH:=jHc.cell;have cS:=jSc.cell;have sB:=jB.lt;go_upto_region 10 with fail;go_still_tail 11,(by kernel_rfl)
  change wpList _ _ _ _ _ wc.drew;go_wp2_with fail;refine HM.out.mono ?_
  rintro e w5 ⟨rfl,hT⟩
  have nwd:l.h≠l.wd:=fun e=>by have h1:=hHI.out.oh;rw[e,hHI.out.ow]at h1;cases h1
  have lwd:=hHI.out.wds.lt;have jH5:=(drewB jHc).wr hT.2 nwd;have jS5:=(drewB jSc).wr hT.2 (by omega)
  have jB5:=(drewB jB).wr hT.2 (by omega)
  have S5:Stp (fun t=>t=(l.id,2)) o1 o1 w w5:=(Stp.of_below (bdrew hwc)).trans (Stp.of_wr hT.2 hHI.out.ow)
  clear jHc jSc jB HM cH cS sB;have cH:=jH5.cell;have zH:=jH5.free;have cS:=jS5.cell;have sB:=jB5.lt;have sS:=jS5.lt;have cB:=jB5.cell;have neB:B≠l.h:=by have:=hHI.out.hb.lt;omega
  have neS:w.heap.size≠l.h:=by have:=hHI.out.hb.lt;omega
  go_wp2_with fail;obtain⟨w6,hw6⟩:∃ w6:World,w6=w5.setCell ⟨l.h,13,none⟩ (.int .i64 (srl+1)):=⟨_,rfl⟩;rw[←hw6];have S6:Stp (fun t=>t=(l.id,2)∨t=(l.id,0)) o1 o1 w w6:=by
   rw[hw6];exact Stp.setCell (T:=fun t=>t=(l.id,2)∨t=(l.id,0)) (S5.mono fun _ e=>Or.inl e) (Or.inr hHI.out.oh) _
  have jH6:Blk w6 l.h #[.pointer (some ⟨l.a,0,none⟩),.int .i64 1,.int .i64 sz,.int .i64 tp,.int .i64 (1+(sz:Int)),.int .i64 sz,.int .i64 otp,vc,vo,.int .i64 0,.bool mvg,.int .i64 owd,.int .i64 scn,.int .i64 (srl+1),vw,vf] 185:=by rw[hw6];exact jH5.set 13 _
  have jS6:Blk w6 w.heap.size #[.int .i64 s.p,.int .i64 s.d,.bool s.weak,.bool s.final] 93:=by rw[hw6];exact jS5.set_other neS _
  have R6:Row w6 o1 (l.id,3) 3 1 vc H.cur.length (H.cur.map fun x=>nv x.1):=by
   have:=hHI.out.rc;rw[hu]at this;exact this.stp S6 (by simp)
  refine (taken_f jH6 R6 hcl hHI.out.oh (by simp) tp tr).mono ?_
  rintro e w7 ⟨rfl,vc',o2,jH7,R7,S7⟩
  have jS7:=jS6.stp S7 (by rw[hbx];simp)
  have S07:=(S6.mono (U:=hTag l) (by rintro _ (rfl|rfl)<;>simp[hTag])).trans (S7.mono (by rintro _ (rfl|rfl)<;>simp[hTag]))
  have W7:Wds w7 l.a l.wd (2*H.size+1) (laidF f tp s (H.serial+1)):=by
   have h6:Wds w6 l.a l.wd (2*H.size+1) (laidF f tp s (H.serial+1)):=by rw[hw6];exact (hE2▸hT.1:Wds w5 l.a l.wd (2*H.size+1) (laidF f tp s (H.serial+1))).stp (Stp.setCell (T:=fun t=>t=(l.id,0)) (Stp.refl _ o1 w5) hHI.out.oh _) (by rw[hHI.out.oa];simp) (by rw[hHI.out.ow];simp)
   exact h6.stp S7 (by rw[hHI.out.oa];simp) (by rw[hHI.out.ow];simp)
  have RO7:Row w7 o2 (l.id,4) 3 1 vo H.old.length (H.old.map fun x=>nv x.1):=by
   have:=hHI.out.ro;rw[hu]at this;exact (this.stp S6 (by simp)).stp S7 (by simp)
  have RW7:=(hHI.out.rw.stp S6 (by simp)).stp S7 (by simp)
  have RF7:=(hHI.out.rf.stp S6 (by simp)).stp S7 (by simp)
  have hbx6:w.heap.size<w6.heap.size:=jS6.lt;have S7t:=S7.tags;clear hw6 jH6 jS6 R6 S6 S5 jH5 jS5 jB5 cH zH cS sB sS cB S7 hT neB nwd;have cH:=jH7.cell;have zH:=jH7.free;have sH:=jH7.lt;have cS:=jS7.cell;have sS:=jS7.lt;have hbx7:o2 w.heap.size=(l.id+1,0):=by rw[S7t _ hbx6];exact hbx
  have T7:∀ b,b<w.heap.size→o2 b=o1 b:=fun b hb=>S07.tags b hb
  obtain⟨iI,hi,hsI,hyI,hzI⟩:=info_int;have hu64:=Tryz.underlying25;have hwl:H.weak.length+1≤maxLen∧(H.weak.length+1)*8≤140737488355328:=len_ok40 (Nat.le_trans hHF.out.wl (by have:=hHs.out;omega))
  have hfl:H.final.length+1≤maxLen∧(H.final.length+1)*8≤140737488355328:=len_ok40 (Nat.le_trans hHF.out.fl (by have:=hHs.out;omega))
  have HWk:=Lib.hid hs.2.2;have HFin:=Lib.hid (fun (w9:World) (o9:Own) (vw' vf':Value) (hb:Blk w9 l.h ((H.lay s).cells l.a vc' vo vw' vf') 185) (rw':Row w9 o9 (l.id,5) 3 1 vw' (H.lay s).weak.length ((H.lay s).weak.map nv)) (rf:Row w9 o9 (l.id,6) 3 1 vf' (H.lay s).final.length ((H.lay s).final.map nv))
    (S:Stp (fun t=>t=(l.id,0)∨t=(l.id,5)∨t=(l.id,6)) o2 o9 w7 w9) =>
   show HpLeft w o l (H.lay s) w9 from
    ⟨vc',vo,vw',vf',_,o9,hHI.out.lay_any hHF.out s hHz.out hHr.out hb (by
      have:=W7.stp S (by rw[T7 _ hHI.out.wds.arena.lt,hHI.out.oa];simp) (by rw[T7 _ hHI.out.wds.lt,hHI.out.ow];simp)
      rw[hE3];exact this) (by have:=R7.stp S (by simp);rw[hE3,hu];exact this) (by rw[hu];exact RO7.stp S (by simp)) rw' rf
      (fun b hb=>(S.tags b (Nat.lt_of_lt_of_le hb S07.size)).trans (T7 b hb)),(hS0.trans S07).trans (S.mono (by rintro _ (rfl|rfl|rfl)<;>simp[hTag]))⟩)
  have HCells:=Lib.hid (show ∀ vw' vf',(H.lay s).cells l.a vc' vo vw' vf'=#[.pointer (some ⟨l.a,0,none⟩),.int .i64 1,.int .i64 sz,.int .i64 tr,.int .i64 (1+(sz:Int)),.int .i64 sz,.int .i64 otp,vc',vo,.int .i64 0,.bool mvg,.int .i64 owd,.int .i64 scn,.int .i64 (srl+1),vw',vf'] from fun vw' vf'=>by
   unfold Hp.cells Hp.lay;simp only[hu];rw[if_neg (by simp),hE2,hE3,hE4,hE5,hE6,hE7,htr.out,hss,hzz])
  clear W7 R7 RO7 hs;have oh7:o2 l.h=(l.id,0):=(T7 _ hHI.out.hb.lt).trans hHI.out.oh;have wF:s.weak=false→(H.lay s).weak=H.weak:=fun e=>by unfold Hp.lay;simp[e]
  have wT:s.weak=true→(H.lay s).weak=H.weak++[H.top]:=fun e=>by unfold Hp.lay;simp[e]
  have fF:s.final=false→(H.lay s).final=H.final:=fun e=>by unfold Hp.lay;simp[e]
  have fT:s.final=true→(H.lay s).final=H.final++[H.top]:=fun e=>by unfold Hp.lay;simp[e]
  rw[hE3]at wT fT;replace hwl:=Lib.hid hwl;replace hfl:=Lib.hid hfl;replace RW7:=Lib.hid RW7;replace RF7:=Lib.hid RF7;replace hbx7:=Lib.hid hbx7;replace oh7:=Lib.hid oh7
  cases hwk:s.weak
  ·rw[hwk]at jS7
   cases hfn:s.final
   ·rw[hfn]at jS7
    have cS:=jS7.cell;go_wp2_with fail;go_ret2;exact⟨rfl,HFin.out w7 o2 vw vf (by rw[HCells.out];exact jH7) (by rw[wF hwk];exact RW7.out) (by rw[fF hfn];exact RF7.out) (Stp.refl _ _ _)⟩
   ·rw[hfn]at jS7
    have cS:=jS7.cell;go_wp2_with (first|(at_builtin;refine wpList_append_row _ rfl _ _ _ rfl 3 iI _ 1 8 hu64 hi hzI hsI hyI rfl (by decide) o2 (l.id,6) _ _ _ rfl (Row.below RF7.out (balloc (bsame w7) _)) ⟨w7.heap.size,0,none⟩ 1 1 [.int .i64 tp] rfl rfl (news_one (Blk.new w7 _ _)) one_i64 hfl.out.1 hfl.out.2 ?_;intro v' w8 hown hst;obtain⟨pa,cp,rfl⟩:=hown.slc;have jH8:=(jH7.alloc (.cells #[.int .i64 tp] 3)).stp hst (by rw[oh7.out];simp);have jS8:=(jS7.alloc (.cells #[.int .i64 tp] 3)).stp hst (by rw[hbx7.out];simp);have cH8:=jH8.cell;have zH8:=jH8.free;have sH8:=jH8.lt;have cS8:=jS8.cell;have sS8:=jS8.lt)|fail)
    go_ret2;have k8:=Stp.setCell (T:=fun t=>t=(l.id,0)) (Stp.refl _ (ext o2 (w7.alloc (.cells #[.int .i64 tp] 3)).heap.size (l.id,6)) w8) (a:=⟨l.h,15,none⟩) (by show ext o2 _ _ l.h=_;rw[ext_lt (jH7.alloc (.cells #[.int .i64 tp] 3)).lt];exact oh7.out) (.slice pa (H.final.length+1) cp)
    have s8:Stp (fun t=>t=(l.id,0)∨t=(l.id,5)∨t=(l.id,6)) o2 _ w7 _:=((Stp.of_below (T:=fun t=>t=(l.id,6)) (balloc (bsame w7) (.cells #[.int .i64 tp] 3))).trans hst |>.mono (by rintro _ rfl;simp)).trans (k8.mono (by rintro _ rfl;simp))
    refine⟨rfl,HFin.out _ _ _ _ (by rw[HCells.out];exact jH8.set 15 _) ?_ ?_ s8⟩
    ·rw[wF hwk];exact ((Row.below RW7.out (balloc (bsame w7) _)).stp hst (by simp)).stp k8 (by simp)
    ·rw[fT hfn];simpa [nv] using hown.stp k8 (by simp)
  ·rw[hwk,(HWk.out hwk).2.2]at jS7
   have cS:=jS7.cell;go_wp2_with (first|(at_builtin;refine wpList_append_row _ rfl _ _ _ rfl 3 iI _ 1 8 hu64 hi hzI hsI hyI rfl (by decide) o2 (l.id,5) _ _ _ rfl (Row.below RW7.out (balloc (bsame w7) _)) ⟨w7.heap.size,0,none⟩ 1 1 [.int .i64 tp] rfl rfl (news_one (Blk.new w7 _ _)) one_i64 hwl.out.1 hwl.out.2 ?_;intro v' w8 hown hst;obtain⟨pa,cp,rfl⟩:=hown.slc;have jH8:=(jH7.alloc (.cells #[.int .i64 tp] 3)).stp hst (by rw[oh7.out];simp);have jS8:=(jS7.alloc (.cells #[.int .i64 tp] 3)).stp hst (by rw[hbx7.out];simp);have cH8:=jH8.cell;have zH8:=jH8.free;have sH8:=jH8.lt;have cS8:=jS8.cell;have sS8:=jS8.lt)|fail)
   go_ret2;have k8:=Stp.setCell (T:=fun t=>t=(l.id,0)) (Stp.refl _ (ext o2 (w7.alloc (.cells #[.int .i64 tp] 3)).heap.size (l.id,5)) w8) (a:=⟨l.h,14,none⟩) (by show ext o2 _ _ l.h=_;rw[ext_lt (jH7.alloc (.cells #[.int .i64 tp] 3)).lt];exact oh7.out) (.slice pa (H.weak.length+1) cp)
   have s8:Stp (fun t=>t=(l.id,0)∨t=(l.id,5)∨t=(l.id,6)) o2 _ w7 _:=((Stp.of_below (T:=fun t=>t=(l.id,5)) (balloc (bsame w7) (.cells #[.int .i64 tp] 3))).trans hst |>.mono (by rintro _ rfl;simp)).trans (k8.mono (by rintro _ rfl;simp))
   refine⟨rfl,HFin.out _ _ _ _ (by rw[HCells.out];exact jH8.set 14 _) ?_ ?_ s8⟩
   ·rw[wT hwk];simpa [nv] using hown.stp k8 (by simp)
   ·rw[fF (HWk.out hwk).2.2];exact ((Row.below RF7.out (balloc (bsame w7) _)).stp hst (by simp)).stp k8 (by simp)
theorem alloc_tg (h0:HpIn w o l H vc vo vw vf f) (hF:H.wf) (hu:H.use=true) (s:Shp) (hs:s.ok) (hr:H.roomy s=true) :
  Calls Tryz.prog 167 #[.pointer (some ⟨l.h,0,none⟩),shpV s] w fun e w'=>e=.returned (.tuple #[.int .i64 H.top,.int .i64 0])∧HpLeft w o l (H.lay s) w':=by
 obtain⟨o1,ho1⟩:∃ o1,o1=ext o w.heap.size (l.id+1,0):=⟨_,rfl⟩;have h:=h0.retag (o':=o1) fun b hb=>by rw[ho1];exact ext_lt hb
 have hS0:Stp (hTag l) o o1 w w:=by rw[ho1];exact (Stp.refl _ o w).ext _ _ (Nat.le_refl _)
 have hbx:o1 w.heap.size=(l.id+1,0):=by rw[ho1];exact ext_ge (Nat.le_refl _)
 clear ho1 h0;have hk:=hF.ok;have hcl:H.cur.length<16384:=by
  have h1:=laid_len _ _ _ hk.cl hk.ck;have h2:=hk.room;have h3:=hk.sz;omega
 have hHF:=Lib.hid hF;have hHr:=Lib.hid hr;have hHz:=Lib.hid hs;unfold Hp.roomy Hp.left at hr;simp only[Bool.and_eq_true,decide_eq_true_eq]at hr;obtain⟨hr,hser⟩:=hr;have hlf:(H.left:Nat)=H.base H.use+H.size-H.top-H.owed:=rfl;have hHs:=Lib.hid hser;clear hF;have hb:=h.cells_t hu;have htop:=base_top hk;have hroom:=hk.room;rw[Hp.base_t hu]at htop hroom hr hlf;have hrd:=rnd_ge (3+s.p+s.d) (by obtain⟨h1,h2,_⟩:=hs;omega)
 have hsz:=hk.sz;have hfit:H.top+rnd (3+s.p+s.d)+H.owed≤1+H.size+H.size:=by omega
 have HR:=Lib.hid (fun w' (hw:Below w.heap.size w w')=>room_any (h.below hw) hk)
 have HS:=Lib.hid (fun w=>hsize_any s hs w)
 have HN:=Lib.hid (fun w=>round_any (3+s.p+s.d) (by omega) (by obtain⟨h1,h2,_⟩:=hs;omega) _ rfl w)
 have HT:=(fun w=>take_any (b:=1+H.size) (s:=H.size) (t:=H.top) ⟨by omega,by omega,by omega,by omega⟩ (3+s.p+s.d) (by omega) (by obtain⟨h1,h2,_⟩:=hs;omega) (by omega) _ rfl w)
 unfold spV at HT;rw[show ((1+H.size:Nat):Int)=1+(H.size:Int) from by omega]at HT
 replace HT:=Lib.hid HT;have hng:¬((rnd (3+s.p+s.d):Nat):Int) > ((H.left:Nat):Int):=by omega
 have hse:(H.serial:Int)<1099511627776:=by omega
 have hHI:=Lib.hid h;have hHK:=Lib.hid hk;generalize hzz:rnd (3+s.p+s.d)=rn at *;generalize H.left=lft at HR hng;clear h hk hr hser hlf;have hse0:(0:Int)≤(H.serial:Int):=by omega
 have hss:((H.serial+1:Nat):Int)=(H.serial:Int)+1:=by omega
 generalize hE1:(H.serial:Int)=srl at hb hse hse0 hss;generalize hE2:H.size=sz at hb hsz HT htop hroom hfit;generalize hE3:H.top=tp at hb HT htop hroom hfit ⊢;generalize hE4:H.otop=otp at hb;generalize hE5:H.owed=owd at hb hroom hfit;generalize hE6:H.scan=scn at hb;generalize hE7:H.moving=mvg at hb;go_enter Tryz.func167,Tryz.ntmps167;have jS:=Blk.new w #[.int .i64 s.p,.int .i64 s.d,.bool s.weak,.bool s.final] 93;have cS:=jS.cell;go_wp2_with fail;refine (HS.out _).mono ?_
 rintro e w1 ⟨rfl,hb1⟩
 have hw1:=btrans (balloc (bsame w) _) hb1;have jS1:=jS.below hb1 jS.lt;clear hb1 cS;go_wp2_with fail;refine (HN.out _).mono ?_
 rintro e w2 ⟨rfl,hb2⟩
 have hw2:=btrans hw1 hb2;have jS2:=jS1.below hb2 jS1.lt;go_wp2_with fail;refine (HR.out _ hw2).mono ?_
 rintro e w3 ⟨rfl,hb3⟩
 have hw3:=btrans hw2 hb3;have jS3:=jS2.below hb3 jS2.lt;have jH3:=hb.below hw3 hb.lt;have cH:=jH3.cell;go_upto_region 7 with fail;have sH:=jH3.lt;clear jS2 jS1 hb3 hb2 HR HS HN;go_cut [7,10,11] (fun t7 t10 t11 wx=>∃ B,t10=.pointer (some ⟨B,0,none⟩)∧t11=.int .i64 tp∧t7=.bool true∧Blk wx B #[.int .i64 (1+(sz:Int)),.int .i64 sz,.int .i64 ((tp+rn:Nat):Int)] 181∧Below w3.heap.size w3 wx∧w3.heap.size≤B)
 case first =>
  go_region_with (first|(go_at_call 228;refine (HT.out _).mono ?_;rintro e w4 ⟨rfl,hb4⟩;try (have jB4:Blk w4 w3.heap.size #[.int .i64 0,.int .i64 0,.int .i64 0] 181:=Blk.below (drewB (Blk.new w3 _ _)) hb4 (by simp);have cB4:=jB4.cell;have zB4:=jB4.free;have sB4:=jB4.lt))|fail)
  all_goals
   go_wp2_with fail;go_meet;first
    | exact⟨_,rfl,rfl,rfl,Blk.new_at _ _ _ _ _ rfl (by simp),balloc (btrans (bdrew (bsame w3)) hb4) _,hb4.size⟩
    | exact⟨w3.heap.size,rfl,rfl,rfl,by simpa using ((jB4.set 0 _).set 1 _).set 2 _,bset (bset (bset (btrans (bdrew (balloc (bsame w3) _)) hb4) (Nat.le_refl _) _) (Nat.le_refl _) _) (Nat.le_refl _) _,Nat.le_refl _⟩
 case rest =>
  clear cH sH HT;obtain⟨B,rfl,rfl,rfl,jB,hbw,hBge⟩:=hcut;have hw3s:=hw3.size;obtain⟨tr,htr⟩:∃ tr:Nat,tr=tp+rn:=⟨_,rfl⟩;rw[←htr]at jB;replace htr:=Lib.hid htr;have jHc:=jH3.below hbw jH3.lt;have jSc:=jS3.below hbw jS3.lt;have hwc:=btrans hw3 hbw;have HM:=Lib.hid (omake_any (hHI.out.wds.below (bdrew hwc)) s hs (at':=tp) (by have:=rnd_ge (3+s.p+s.d) (by obtain⟨h1,h2,_⟩:=hs;omega);rw[hE2];omega) (H.serial+1) (by have:=hHs.out;omega) _ _ rfl hss.symm)
  clear jH3 jS3 hbw hw3;have cH:=jHc.cell;have cS:=jSc.cell;have sB:=jB.lt;go_upto_region 10 with fail;go_still_tail 11,(by kernel_rfl)
  change wpList _ _ _ _ _ wc.drew;go_wp2_with fail;refine HM.out.mono ?_
  rintro e w5 ⟨rfl,hT⟩
  have nwd:l.h≠l.wd:=fun e=>by have h1:=hHI.out.oh;rw[e,hHI.out.ow]at h1;cases h1
  have lwd:=hHI.out.wds.lt;have jH5:=(drewB jHc).wr hT.2 nwd;have jS5:=(drewB jSc).wr hT.2 (by omega)
  have jB5:=(drewB jB).wr hT.2 (by omega)
  have S5:Stp (fun t=>t=(l.id,2)) o1 o1 w w5:=(Stp.of_below (bdrew hwc)).trans (Stp.of_wr hT.2 hHI.out.ow)
  clear jHc jSc jB HM cH cS sB;have cH:=jH5.cell;have zH:=jH5.free;have cS:=jS5.cell;have sB:=jB5.lt;have sS:=jS5.lt;have cB:=jB5.cell;have neB:B≠l.h:=by have:=hHI.out.hb.lt;omega
  have neS:w.heap.size≠l.h:=by have:=hHI.out.hb.lt;omega
  go_wp2_with fail;obtain⟨w6,hw6⟩:∃ w6:World,w6=w5.setCell ⟨l.h,13,none⟩ (.int .i64 (srl+1)):=⟨_,rfl⟩;rw[←hw6];have S6:Stp (fun t=>t=(l.id,2)∨t=(l.id,0)) o1 o1 w w6:=by
   rw[hw6];exact Stp.setCell (T:=fun t=>t=(l.id,2)∨t=(l.id,0)) (S5.mono fun _ e=>Or.inl e) (Or.inr hHI.out.oh) _
  have jH6:Blk w6 l.h #[.pointer (some ⟨l.a,0,none⟩),.int .i64 1,.int .i64 sz,.int .i64 otp,.int .i64 (1+(sz:Int)),.int .i64 sz,.int .i64 tp,vo,vc,.int .i64 1,.bool mvg,.int .i64 owd,.int .i64 scn,.int .i64 (srl+1),vw,vf] 185:=by rw[hw6];exact jH5.set 13 _
  have jS6:Blk w6 w.heap.size #[.int .i64 s.p,.int .i64 s.d,.bool s.weak,.bool s.final] 93:=by rw[hw6];exact jS5.set_other neS _
  have R6:Row w6 o1 (l.id,4) 3 1 vc H.cur.length (H.cur.map fun x=>nv x.1):=by
   have:=hHI.out.rc;rw[hu]at this;exact this.stp S6 (by simp)
  refine (taken_t jH6 R6 hcl hHI.out.oh (by simp) tp tr).mono ?_
  rintro e w7 ⟨rfl,vc',o2,jH7,R7,S7⟩
  have jS7:=jS6.stp S7 (by rw[hbx];simp)
  have S07:=(S6.mono (U:=hTag l) (by rintro _ (rfl|rfl)<;>simp[hTag])).trans (S7.mono (by rintro _ (rfl|rfl)<;>simp[hTag]))
  have W7:Wds w7 l.a l.wd (2*H.size+1) (laidF f tp s (H.serial+1)):=by
   have h6:Wds w6 l.a l.wd (2*H.size+1) (laidF f tp s (H.serial+1)):=by rw[hw6];exact (hE2▸hT.1:Wds w5 l.a l.wd (2*H.size+1) (laidF f tp s (H.serial+1))).stp (Stp.setCell (T:=fun t=>t=(l.id,0)) (Stp.refl _ o1 w5) hHI.out.oh _) (by rw[hHI.out.oa];simp) (by rw[hHI.out.ow];simp)
   exact h6.stp S7 (by rw[hHI.out.oa];simp) (by rw[hHI.out.ow];simp)
  have RO7:Row w7 o2 (l.id,3) 3 1 vo H.old.length (H.old.map fun x=>nv x.1):=by
   have:=hHI.out.ro;rw[hu]at this;exact (this.stp S6 (by simp)).stp S7 (by simp)
  have RW7:=(hHI.out.rw.stp S6 (by simp)).stp S7 (by simp)
  have RF7:=(hHI.out.rf.stp S6 (by simp)).stp S7 (by simp)
  have hbx6:w.heap.size<w6.heap.size:=jS6.lt;have S7t:=S7.tags;clear hw6 jH6 jS6 R6 S6 S5 jH5 jS5 jB5 cH zH cS sB sS cB S7 hT neB nwd;have cH:=jH7.cell;have zH:=jH7.free;have sH:=jH7.lt;have cS:=jS7.cell;have sS:=jS7.lt;have hbx7:o2 w.heap.size=(l.id+1,0):=by rw[S7t _ hbx6];exact hbx
  have T7:∀ b,b<w.heap.size→o2 b=o1 b:=fun b hb=>S07.tags b hb
  obtain⟨iI,hi,hsI,hyI,hzI⟩:=info_int;have hu64:=Tryz.underlying25;have hwl:H.weak.length+1≤maxLen∧(H.weak.length+1)*8≤140737488355328:=len_ok40 (Nat.le_trans hHF.out.wl (by have:=hHs.out;omega))
  have hfl:H.final.length+1≤maxLen∧(H.final.length+1)*8≤140737488355328:=len_ok40 (Nat.le_trans hHF.out.fl (by have:=hHs.out;omega))
  have HWk:=Lib.hid hs.2.2;have HFin:=Lib.hid (fun (w9:World) (o9:Own) (vw' vf':Value) (hb:Blk w9 l.h ((H.lay s).cells l.a vc' vo vw' vf') 185) (rw':Row w9 o9 (l.id,5) 3 1 vw' (H.lay s).weak.length ((H.lay s).weak.map nv)) (rf:Row w9 o9 (l.id,6) 3 1 vf' (H.lay s).final.length ((H.lay s).final.map nv))
    (S:Stp (fun t=>t=(l.id,0)∨t=(l.id,5)∨t=(l.id,6)) o2 o9 w7 w9) =>
   show HpLeft w o l (H.lay s) w9 from
    ⟨vc',vo,vw',vf',_,o9,hHI.out.lay_any hHF.out s hHz.out hHr.out hb (by
      have:=W7.stp S (by rw[T7 _ hHI.out.wds.arena.lt,hHI.out.oa];simp) (by rw[T7 _ hHI.out.wds.lt,hHI.out.ow];simp)
      rw[hE3];exact this) (by have:=R7.stp S (by simp);rw[hE3,hu];exact this) (by rw[hu];exact RO7.stp S (by simp)) rw' rf
      (fun b hb=>(S.tags b (Nat.lt_of_lt_of_le hb S07.size)).trans (T7 b hb)),(hS0.trans S07).trans (S.mono (by rintro _ (rfl|rfl|rfl)<;>simp[hTag]))⟩)
  have HCells:=Lib.hid (show ∀ vw' vf',(H.lay s).cells l.a vc' vo vw' vf'=#[.pointer (some ⟨l.a,0,none⟩),.int .i64 1,.int .i64 sz,.int .i64 otp,.int .i64 (1+(sz:Int)),.int .i64 sz,.int .i64 tr,vo,vc',.int .i64 1,.bool mvg,.int .i64 owd,.int .i64 scn,.int .i64 (srl+1),vw',vf'] from fun vw' vf'=>by
   unfold Hp.cells Hp.lay;simp only[hu];rw[if_pos trivial,hE2,hE3,hE4,hE5,hE6,hE7,htr.out,hss,hzz])
  clear W7 R7 RO7 hs;have oh7:o2 l.h=(l.id,0):=(T7 _ hHI.out.hb.lt).trans hHI.out.oh;have wF:s.weak=false→(H.lay s).weak=H.weak:=fun e=>by unfold Hp.lay;simp[e]
  have wT:s.weak=true→(H.lay s).weak=H.weak++[H.top]:=fun e=>by unfold Hp.lay;simp[e]
  have fF:s.final=false→(H.lay s).final=H.final:=fun e=>by unfold Hp.lay;simp[e]
  have fT:s.final=true→(H.lay s).final=H.final++[H.top]:=fun e=>by unfold Hp.lay;simp[e]
  rw[hE3]at wT fT;replace hwl:=Lib.hid hwl;replace hfl:=Lib.hid hfl;replace RW7:=Lib.hid RW7;replace RF7:=Lib.hid RF7;replace hbx7:=Lib.hid hbx7;replace oh7:=Lib.hid oh7
  cases hwk:s.weak
  ·rw[hwk]at jS7
   cases hfn:s.final
   ·rw[hfn]at jS7
    have cS:=jS7.cell;go_wp2_with fail;go_ret2;exact⟨rfl,HFin.out w7 o2 vw vf (by rw[HCells.out];exact jH7) (by rw[wF hwk];exact RW7.out) (by rw[fF hfn];exact RF7.out) (Stp.refl _ _ _)⟩
   ·rw[hfn]at jS7
    have cS:=jS7.cell;go_wp2_with (first|(at_builtin;refine wpList_append_row _ rfl _ _ _ rfl 3 iI _ 1 8 hu64 hi hzI hsI hyI rfl (by decide) o2 (l.id,6) _ _ _ rfl (Row.below RF7.out (balloc (bsame w7) _)) ⟨w7.heap.size,0,none⟩ 1 1 [.int .i64 tp] rfl rfl (news_one (Blk.new w7 _ _)) one_i64 hfl.out.1 hfl.out.2 ?_;intro v' w8 hown hst;obtain⟨pa,cp,rfl⟩:=hown.slc;have jH8:=(jH7.alloc (.cells #[.int .i64 tp] 3)).stp hst (by rw[oh7.out];simp);have jS8:=(jS7.alloc (.cells #[.int .i64 tp] 3)).stp hst (by rw[hbx7.out];simp);have cH8:=jH8.cell;have zH8:=jH8.free;have sH8:=jH8.lt;have cS8:=jS8.cell;have sS8:=jS8.lt)|fail)
    go_ret2;have k8:=Stp.setCell (T:=fun t=>t=(l.id,0)) (Stp.refl _ (ext o2 (w7.alloc (.cells #[.int .i64 tp] 3)).heap.size (l.id,6)) w8) (a:=⟨l.h,15,none⟩) (by show ext o2 _ _ l.h=_;rw[ext_lt (jH7.alloc (.cells #[.int .i64 tp] 3)).lt];exact oh7.out) (.slice pa (H.final.length+1) cp)
    have s8:Stp (fun t=>t=(l.id,0)∨t=(l.id,5)∨t=(l.id,6)) o2 _ w7 _:=((Stp.of_below (T:=fun t=>t=(l.id,6)) (balloc (bsame w7) (.cells #[.int .i64 tp] 3))).trans hst |>.mono (by rintro _ rfl;simp)).trans (k8.mono (by rintro _ rfl;simp))
    refine⟨rfl,HFin.out _ _ _ _ (by rw[HCells.out];exact jH8.set 15 _) ?_ ?_ s8⟩
    ·rw[wF hwk];exact ((Row.below RW7.out (balloc (bsame w7) _)).stp hst (by simp)).stp k8 (by simp)
    ·rw[fT hfn];simpa [nv] using hown.stp k8 (by simp)
  ·rw[hwk,(HWk.out hwk).2.2]at jS7
   have cS:=jS7.cell;go_wp2_with (first|(at_builtin;refine wpList_append_row _ rfl _ _ _ rfl 3 iI _ 1 8 hu64 hi hzI hsI hyI rfl (by decide) o2 (l.id,5) _ _ _ rfl (Row.below RW7.out (balloc (bsame w7) _)) ⟨w7.heap.size,0,none⟩ 1 1 [.int .i64 tp] rfl rfl (news_one (Blk.new w7 _ _)) one_i64 hwl.out.1 hwl.out.2 ?_;intro v' w8 hown hst;obtain⟨pa,cp,rfl⟩:=hown.slc;have jH8:=(jH7.alloc (.cells #[.int .i64 tp] 3)).stp hst (by rw[oh7.out];simp);have jS8:=(jS7.alloc (.cells #[.int .i64 tp] 3)).stp hst (by rw[hbx7.out];simp);have cH8:=jH8.cell;have zH8:=jH8.free;have sH8:=jH8.lt;have cS8:=jS8.cell;have sS8:=jS8.lt)|fail)
   go_ret2;have k8:=Stp.setCell (T:=fun t=>t=(l.id,0)) (Stp.refl _ (ext o2 (w7.alloc (.cells #[.int .i64 tp] 3)).heap.size (l.id,5)) w8) (a:=⟨l.h,14,none⟩) (by show ext o2 _ _ l.h=_;rw[ext_lt (jH7.alloc (.cells #[.int .i64 tp] 3)).lt];exact oh7.out) (.slice pa (H.weak.length+1) cp)
   have s8:Stp (fun t=>t=(l.id,0)∨t=(l.id,5)∨t=(l.id,6)) o2 _ w7 _:=((Stp.of_below (T:=fun t=>t=(l.id,5)) (balloc (bsame w7) (.cells #[.int .i64 tp] 3))).trans hst |>.mono (by rintro _ rfl;simp)).trans (k8.mono (by rintro _ rfl;simp))
   refine⟨rfl,HFin.out _ _ _ _ (by rw[HCells.out];exact jH8.set 14 _) ?_ ?_ s8⟩
   ·rw[wT hwk];simpa [nv] using hown.stp k8 (by simp)
   ·rw[fF (HWk.out hwk).2.2];exact ((Row.below RF7.out (balloc (bsame w7) _)).stp hst (by simp)).stp k8 (by simp)
theorem HpIn.left_below (h:HpIn w o l H vc vo vw vf f){w':World}(hb:Below w.heap.size w w'):HpLeft w o l H w':=⟨vc,vo,vw,vf,f,o,h.below hb,Stp.of_below hb⟩
theorem alloc_full (h:HpIn w o l H vc vo vw vf f)(hk:H.ok)(s:Shp)(hs:s.ok)(hr:H.roomy s=false) :
  Calls Tryz.prog 167 #[.pointer (some ⟨l.h,0,none⟩),shpV s] w fun e w'=>e=.returned (.tuple #[.int .i64 0,.int .i64 100])∧Below w.heap.size w w':=by
 have hser:=hk.ser;have hrd:=rnd_ge (3+s.p+s.d) (by obtain⟨h1,h2,_⟩:=hs;omega)
 have HR:=Lib.hid (fun w' (hw:Below w.heap.size w w')=>room_any (h.below hw) hk)
 have HS:=Lib.hid (fun w=>hsize_any s hs w)
 have HN:=Lib.hid (fun w=>round_any (3+s.p+s.d) (by omega) (by obtain⟨h1,h2,_⟩:=hs;omega) _ rfl w)
 have c13:∀ w',Below w.heap.size w w'→w'.cell? ⟨l.h,13,none⟩=some (.int .i64 H.serial):=fun w' hb=>by
  rw[(h.hb.below hb h.hb.lt).cell];unfold Hp.cells;split<;>rfl
 have HC:=Lib.hid c13;unfold Hp.roomy at hr;have hd:((H.left:Nat):Int)<((rnd (3+s.p+s.d):Nat):Int)∨(¬((H.left:Nat):Int)<((rnd (3+s.p+s.d):Nat):Int)∧(1099511627776:Int)≤(H.serial:Int)):=by
  simp only[Bool.and_eq_false_iff,decide_eq_false_iff_not]at hr;omega
 generalize ((H.left:Nat):Int)=q at HR hd;generalize ((rnd (3+s.p+s.d):Nat):Int)=rn at HN hd;generalize (H.serial:Int)=sr at *;clear h hk hr hser hrd c13;rcases hd with hng|⟨hng,hse⟩
 all_goals
  go_enter Tryz.func167,Tryz.ntmps167;have jS:=Blk.new w #[.int .i64 s.p,.int .i64 s.d,.bool s.weak,.bool s.final] 93;have cS:=jS.cell;go_wp2_with fail;refine (HS.out _).mono ?_
  rintro e w1 ⟨rfl,hb1⟩
  have hw1:=btrans (balloc (bsame w) _) hb1;clear hb1 cS;go_wp2_with fail;refine (HN.out _).mono ?_
  rintro e w2 ⟨rfl,hb2⟩
  have hw2:=btrans hw1 hb2;go_wp2_with fail;refine (HR.out _ hw2).mono ?_
  rintro e w3 ⟨rfl,hb3⟩
  have c13:=HC.out _ (btrans hw2 hb3);go_wp2_with fail;go_ret2;exact⟨rfl,btrans hw2 hb3⟩
theorem alloc_any (h:HpIn w o l H vc vo vw vf f)(hw:H.wf)(s:Shp)(hs:s.ok) :
  Calls Tryz.prog 167 #[.pointer (some ⟨l.h,0,none⟩),shpV s] w fun e w'=>e=.returned (.tuple #[.int .i64 ((H.allocR s).2.1:Nat),.int .i64 ((H.allocR s).2.2:Nat)])∧HpLeft w o l (H.allocR s).1 w':=by
 unfold Hp.allocR
 cases hr:H.roomy s with
 | false =>
  rw[if_neg (by simp)]
  refine (alloc_full h hw.ok s hs hr).mono ?_
  rintro e w' ⟨rfl,hb⟩
  exact⟨rfl,h.left_below hb⟩
 | true =>
  rw[if_pos rfl]
  cases hu:H.use
  ·exact alloc_fg h hw hu s hs hr
  ·exact alloc_tg h hw hu s hs hr
end
end Go.Proofs.YteehgedabdchcaaGreat
