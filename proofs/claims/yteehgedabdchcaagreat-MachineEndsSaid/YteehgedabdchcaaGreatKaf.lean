import Derived.Test.YteehgedabdchcaaGreatKae
set_option linter.all false
set_option maxRecDepth 1000000
set_option maxHeartbeats 16000000
open Go renaming World->Aa,Calls->Ab,Value->Ac
open Go.RowKit renaming Below->Ae
open Go.Value renaming int->I,pointer->Ag,tuple->Aj,agg->Ak
open Go.IntKind renaming i64->Z
open Go.Ending renaming returned->O
namespace Go.Proofs.YteehgedabdchcaaGreat
section
open Go.RowKit Hp
section
variable {w : Aa} {o : Own} {l : Ba} {H : Hp} {vc vo vw vf : Ac} {f : Nat -> Nat}
theorem lc (H:Hp):H.base H.use+H.size<=H.base (!H.use)\/H.base (!H.use)+H.size<=H.base H.use:=by
 unfold Hp.base
 cases H.use<;>simp<;>omega
theorem Yt (hk:H.ok){x y:Nat×Ob×Option Nat}(hx:x ∈ H.old)(hy:y ∈ H.old)(hne:x.1≠y.1):x.1+Bo x.2.1.size<=y.1\/y.1+Bo y.2.1.size<=x.1:=
 mz _ _ _ hk.ol hk.ok (x.1,x.2.1) (Qt.2 ⟨x,hx,rfl⟩) (y.1,y.2.1) (Qt.2 ⟨y,hy,rfl⟩) hne
theorem GC (hk:H.ok){x:Nat×Ob×Option Nat}(hx:x ∈ H.old):x.2.1.ok/\H.base (!H.use)<=x.1/\x.1+Bo x.2.1.size<=H.base (!H.use)+H.size:=by
 have hm:(x.1,x.2.1) ∈ H.B8:=Qt.2 ⟨x,hx,rfl⟩;have h1:=zr _ _ _ hk.ol _ hm;have h4:=hk.ot;simp only at h1;exact⟨hk.ok _ hm,h1.1,by omega⟩
theorem AE.RQ (h:AE w o l H vc vo vw vf f)(hk:H.ok){p:Nat}{ob:Ob}(hp:Bj H.old p=some (ob,none)){w':Aa}{o':Own}{vc':Ac}
  (hb:Am w' l.h ((H.AA p).1.cells l.a vc' vo vw vf) 185)(hw:BF w' l.a l.wd (2*H.size+1) (FE f p H.top ob.size))
  (rc:Row w' o' (l.tc H.use) 3 1 vc' (H.cur.length+1) ((H.cur.map fun x=>nv x.1)++[nv H.top]))(ro:Row w' o' (l.Vf H.use) 3 1 vo H.old.length (H.old.map fun x=>nv x.1))
  (rw':Row w' o' (l.id,5) 3 1 vw H.Az.length (H.Az.map nv))(rf:Row w' o' (l.id,6) 3 1 vf H.final.length (H.final.map nv))
  (ht:∀ b,b<w.heap.size->o' b=o b):AE w' o' l (H.AA p).1 vc' vo vw vf (FE f p H.top ob.size):=by
 obtain⟨ho,b1,b2,_⟩:=N5 hk hp;have hrd:=zz _ (Ob.AR ho).2;have how:=QU hp;have hroom:=hk.room;have howe:=hk.FP;have htop:=vj hk;have hsp:=lc H;have hpm:=jf hp;rw[H.Bw hp]at hb ⊢;refine⟨hb,hw,?_,?_,rw',rf,(ht _ h.hb.lt).trans h.oh,(ht _ h.B5.B2.lt).trans h.oa,(ht _ h.B5.lt).trans h.ow,?_,?_⟩
 ·show Row w' o' (l.id,if H.use then 4 else 3) _ 1 vc' (H.cur++[(H.top,ob)]).length ((H.cur++[(H.top,ob)]).map fun x=>nv x.1)
  have rc':Row w' o' (l.id,if H.use then 4 else 3) _ 1 vc' _ _:=rc
  simpa using rc'
 ·show Row w' o' (l.id,if H.use then 3 else 4) _ 1 vo (qr H.old p H.top).length ((qr H.old p H.top).map fun x=>nv x.1)
  have e:(qr H.old p H.top).map (fun x=>nv x.1)=H.old.map fun x=>nv x.1:=by
   have:=congrArg (List.map nv) (WH H.old p H.top);simpa [List.map_map,Function.comp_def] using this
  rw[e,X3];exact ro
 ·intro x hx
  rcases Qs.1 (show x ∈ H.cur++[(H.top,ob)] from hx) with hx|hx
  ·have h3:=zr _ _ _ hk.cl x hx
   have h4:=zz _ (Ob.AR (hk.ck x hx)).2;have h5:=Hp.apart hk hx hpm;refine (h.E3 x hx).of_eq (hk.ck x hx) fun j h1 h2=>bw (.inl (by omega)) ?_
   simp only at h5;omega
  ·rw[Za.1 hx]
   exact ((h.B8 _ hpm).1 rfl).copied ho (by simp only;omega)
 ·intro x hx
  obtain⟨z,hz,rfl⟩:=Qt.1 (show x ∈ H.old.map _ from hx);obtain⟨k1,k2,k3⟩:=GC hk hz;have hrz:=zz _ (Ob.AR k1).2;split
  ·rename_i e
   refine⟨fun hn=>by simp at hn,fun q hq=>?_⟩
   simp only[Zb]at hq;subst hq;rw[e];exact Lz _ _ _ _
  ·rename_i e
   have ha:=Yt hk hz hpm (by simpa using e)
   simp only at ha;refine⟨fun hn=>((h.B8 z hz).1 hn).of_eq k1 fun j h1 h2=>bw (by omega) (by omega),fun q hq=>?_⟩
   rw[bw (by omega) e]
   exact (h.B8 z hz).2 q hq
end
end
section
open Go.RowKit Hp
attribute [local go_sem ↓] Go.wp_at_zero Go.wp_at_succ
theorem F7 {w:Aa}{v:Ac}{p:Nat}(hth:Ab Tryz.prog 172 #[v,I Z p] w fun e w'=>e=O (.bool false)/\Ae w.heap.size w w') :
  Ab Tryz.prog 173 #[v,I Z p] w fun e w'=>e=O (I Z p)/\Ae w.heap.size w w':=by
 have HT:=Qa hth;clear hth;go_enter Tryz.func173,Tryz.ntmps173;go_wp2_with fail;refine HT.out.mono ?_
 rintro e w1⟨rfl,hb1⟩
 go_wp2_with fail;go_ret;exact⟨rfl,hb1⟩
theorem XF {w:Aa}{l:Ba}{vc vo vw vf:Ac}{sz tp otp owd Ci srl p q:Nat}{mvg:Bool}(hb:Am w l.h #[Ag (some ⟨l.a,0,none⟩),I Z 1,I Z sz,I Z tp,I Z (1+(sz:Int)),I Z sz,I Z otp,vc,vo,I Z 0,.bool mvg,I Z owd,I Z Ci,I Z srl,vw,vf] 185)
  (hth:Ab Tryz.prog 172 #[Ag (some ⟨l.h,0,none⟩),I Z p] w fun e w'=>e=O (.bool true)/\Ae w.heap.size w w')
  (hcp:∀ W,Ae w.heap.size w W->Ab Tryz.prog 235 #[Ag (some ⟨l.a,0,none⟩),I Z p,Ak #[I Z 1,I Z sz,I Z tp]] W fun e w'=>e=O (Aj #[Ak #[I Z 1,I Z sz,I Z tp],I Z q,I Z 0])/\Ae W.heap.size W w') :
  Ab Tryz.prog 173 #[Ag (some ⟨l.h,0,none⟩),I Z p] w fun e w'=>e=O (I Z q)/\Ae w.heap.size w w':=by
 have HT:=Qa hth;have HC:=Qa hcp;clear hth hcp;go_enter Tryz.func173,Tryz.ntmps173;go_wp2_with fail;refine HT.out.mono ?_
 rintro e w1 ⟨rfl,hb1⟩
 have jH:=hb.below hb1 hb.lt;have c:=jH.cell;have s1:=jH.lt;go_upto_region 3 with fail;have k9:=c 9;have k1:=c 1;have k2:=c 2;have k3:=c 3;simp at k9 k1 k2 k3;have hnw:=World.new_ne w1 ⟨l.h,9,none⟩ k9;go_region_held3 (fun w'=>w'.cell? ⟨l.h,9,none⟩=some (I Z 0)/\w'.cell? ⟨l.h,1,none⟩=some (I Z 1)/\w'.cell? ⟨l.h,2,none⟩=some (I Z sz)/\w'.cell? ⟨l.h,3,none⟩=some (I Z tp)) (go_keep) (fail)
 clear c s1 k9 k1 k2 k3 hnw HT;obtain⟨W2,hW2⟩:∃ W,W=(w1.alloc (.cells #[I Z 1,I Z sz,I Z tp] 181)).drew:=⟨_,rfl⟩;have bW2:Ae w.heap.size w W2:=by rw[hW2];exact qe (qa hb1 _)
 have jH2:Am W2 l.h #[Ag (some ⟨l.a,0,none⟩),I Z 1,I Z sz,I Z tp,I Z (1+(sz:Int)),I Z sz,I Z otp,vc,vo,I Z 0,.bool mvg,I Z owd,I Z Ci,I Z srl,vw,vf] 185:=by rw[hW2];exact qi (jH.alloc _)
 have jS2:Am W2 w1.heap.size #[I Z 1,I Z sz,I Z tp] 181:=by rw[hW2];exact qi (Am.new _ _ _)
 rw[<-hW2];obtain⟨bS,hbS⟩:∃ b,b=w1.heap.size:=⟨_,rfl⟩;rw[<-hbS]at jS2 ⊢;clear hW2 hbS hb1 jH hb;have cH:=jH2.cell;have cS:=jS2.cell;have sH:=jH2.lt;have sS:=jS2.lt;go_upto_region 4 with fail;go_cut [6,7,8] (fun t6 t7 t8 wx=>∃ Bx,t6=Ag (some ⟨Bx,0,none⟩)/\t7=I Z q/\t8=I Z 0/\Am wx Bx #[I Z 1,I Z sz,I Z tp] 181/\Ae W2.heap.size W2 wx)
 case first =>
  go_region_with (first|(go_at_call 235;refine (HC.out _ (by first|exact qe bW2|exact qe (qa bW2 _)|exact qa (qe bW2) _)).mono ?_;rintro e w4 ⟨rfl,hb4⟩;try (have jB4:Am w4 W2.heap.size #[I Z 0,I Z 0,I Z 0] 181:=Am.below (qi (Am.new W2 _ _)) hb4 (by simp);have cB4:=jB4.cell;have zB4:=jB4.free;have sB4:=jB4.lt))|fail)
  all_goals
   go_wp2_with fail;go_meet;first
    | exact⟨_,rfl,rfl,rfl,Am.new _ _ _,qa (qd (qe (qc W2)) hb4) _⟩
    | exact⟨W2.heap.size,rfl,rfl,rfl,by simpa using ((jB4.set 0 _).set 1 _).set 2 _,qo (qo (qo (qd (qe (qa (qc W2) _)) hb4) (Qk _) _) (Qk _) _) (Qk _) _⟩
 case rest =>
  obtain⟨Bx,rfl,rfl,rfl,jB,hbx⟩:=hcut;have hfin:=Qa (qd bW2 hbx);have cB:=jB.cell;have cS:=(jS2.below hbx jS2.lt).cell;clear jH2 jS2 cH HC bW2 hbx jB;go_wp2_with fail;go_ret;exact⟨rfl,hfin.out⟩
theorem Y0 {w:Aa}{l:Ba}{vc vo vw vf:Ac}{sz tp otp owd Ci srl p q:Nat}{mvg:Bool}(hb:Am w l.h #[Ag (some ⟨l.a,0,none⟩),I Z 1,I Z sz,I Z otp,I Z (1+(sz:Int)),I Z sz,I Z tp,vo,vc,I Z 1,.bool mvg,I Z owd,I Z Ci,I Z srl,vw,vf] 185)
  (hth:Ab Tryz.prog 172 #[Ag (some ⟨l.h,0,none⟩),I Z p] w fun e w'=>e=O (.bool true)/\Ae w.heap.size w w')
  (hcp:∀ W,Ae w.heap.size w W->Ab Tryz.prog 235 #[Ag (some ⟨l.a,0,none⟩),I Z p,Ak #[I Z (1+(sz:Int)),I Z sz,I Z tp]] W fun e w'=>e=O (Aj #[Ak #[I Z (1+(sz:Int)),I Z sz,I Z tp],I Z q,I Z 0])/\Ae W.heap.size W w') :
  Ab Tryz.prog 173 #[Ag (some ⟨l.h,0,none⟩),I Z p] w fun e w'=>e=O (I Z q)/\Ae w.heap.size w w':=by
 have HT:=Qa hth;have HC:=Qa hcp;clear hth hcp;go_enter Tryz.func173,Tryz.ntmps173;go_wp2_with fail;refine HT.out.mono ?_
 rintro e w1 ⟨rfl,hb1⟩
 have jH:=hb.below hb1 hb.lt;have c:=jH.cell;have s1:=jH.lt;go_upto_region 3 with fail;have k9:=c 9;have k1:=c 4;have k2:=c 5;have k3:=c 6;simp at k9 k1 k2 k3;have hnw:=World.new_ne w1 ⟨l.h,9,none⟩ k9;go_region_held3 (fun w'=>w'.cell? ⟨l.h,9,none⟩=some (I Z 1)/\w'.cell? ⟨l.h,4,none⟩=some (I Z (1+(sz:Int)))/\w'.cell? ⟨l.h,5,none⟩=some (I Z sz)/\w'.cell? ⟨l.h,6,none⟩=some (I Z tp)) (go_keep) (fail)
 clear c s1 k9 k1 k2 k3 hnw HT;obtain⟨W2,hW2⟩:∃ W,W=(w1.alloc (.cells #[I Z (1+(sz:Int)),I Z sz,I Z tp] 181)).drew:=⟨_,rfl⟩;have bW2:Ae w.heap.size w W2:=by rw[hW2];exact qe (qa hb1 _)
 have jH2:Am W2 l.h #[Ag (some ⟨l.a,0,none⟩),I Z 1,I Z sz,I Z otp,I Z (1+(sz:Int)),I Z sz,I Z tp,vo,vc,I Z 1,.bool mvg,I Z owd,I Z Ci,I Z srl,vw,vf] 185:=by rw[hW2];exact qi (jH.alloc _)
 have jS2:Am W2 w1.heap.size #[I Z (1+(sz:Int)),I Z sz,I Z tp] 181:=by rw[hW2];exact qi (Am.new _ _ _)
 rw[<-hW2];obtain⟨bS,hbS⟩:∃ b,b=w1.heap.size:=⟨_,rfl⟩;rw[<-hbS]at jS2 ⊢;clear hW2 hbS hb1 jH hb;have cH:=jH2.cell;have cS:=jS2.cell;have sH:=jH2.lt;have sS:=jS2.lt;go_upto_region 4 with fail;go_cut [6,7,8] (fun t6 t7 t8 wx=>∃ Bx,t6=Ag (some ⟨Bx,0,none⟩)/\t7=I Z q/\t8=I Z 0/\Am wx Bx #[I Z (1+(sz:Int)),I Z sz,I Z tp] 181/\Ae W2.heap.size W2 wx)
 case first =>
  go_region_with (first|(go_at_call 235;refine (HC.out _ (by first|exact qe bW2|exact qe (qa bW2 _)|exact qa (qe bW2) _)).mono ?_;rintro e w4 ⟨rfl,hb4⟩;try (have jB4:Am w4 W2.heap.size #[I Z 0,I Z 0,I Z 0] 181:=Am.below (qi (Am.new W2 _ _)) hb4 (by simp);have cB4:=jB4.cell;have zB4:=jB4.free;have sB4:=jB4.lt))|fail)
  all_goals
   go_wp2_with fail;go_meet;first
    | exact⟨_,rfl,rfl,rfl,Am.new _ _ _,qa (qd (qe (qc W2)) hb4) _⟩
    | exact⟨W2.heap.size,rfl,rfl,rfl,by simpa using ((jB4.set 0 _).set 1 _).set 2 _,qo (qo (qo (qd (qe (qa (qc W2) _)) hb4) (Qk _) _) (Qk _) _) (Qk _) _⟩
 case rest =>
  obtain⟨Bx,rfl,rfl,rfl,jB,hbx⟩:=hcut;have hfin:=Qa (qd bW2 hbx);have cB:=jB.cell;have cS:=(jS2.below hbx jS2.lt).cell;clear jH2 jS2 cH HC bW2 hbx jB;go_wp2_with fail;go_ret;exact⟨rfl,hfin.out⟩
end
end Go.Proofs.YteehgedabdchcaaGreat
