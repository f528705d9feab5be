import Derived.Test.YteehgedabdchcaaGreatKai
set_option linter.all false
set_option maxRecDepth 1000000
set_option maxHeartbeats 0
open Go renaming World->Aa,Calls->Ab,Value->Ac
open Go.RowKit renaming Below->Ae
open Go.Value renaming int->I,pointer->Ag,tuple->Aj,agg->Ak
open Go.IntKind renaming i64->Z
open Go.Ending renaming returned->O
open Go.Proofs.Tryz
open Go.Proofs.Tryz renaming prog->ARt
namespace Go.Proofs.YteehgedabdchcaaGreat
section
open Go.RowKit Hp
section
variable {w : Aa} {o : Own} {l : A7} {H : Hp} {vc vo vw vf : Ac} {f : Nat -> Nat}
def Wx (H:Hp):H.base H.use+H.size<=H.base (!H.use)\/H.base (!H.use)+H.size<=H.base H.use:=by
 unfold Hp.base
 cases H.use<;>simp<;>omega
def qnp (hk:H.ok){x y:Nat×Ob×Option Nat}(hx:x ∈ H.old)(hy:y ∈ H.old)(hne:x.1≠y.1):x.1+Bu x.2.1.size<=y.1\/y.1+Bu y.2.1.size<=x.1:=
 fe _ _ _ hk.ol hk.ok (x.1,x.2.1) (Qt.2 ⟨x,hx,rfl⟩) (y.1,y.2.1) (Qt.2 ⟨y,hy,rfl⟩) hne
def Ka (hk:H.ok){x:Nat×Ob×Option Nat}(hx:x ∈ H.old):x.2.1.ok/\H.base (!H.use)<=x.1/\x.1+Bu x.2.1.size<=H.base (!H.use)+H.size:=by
 have hm:(x.1,x.2.1) ∈ H.BP:=Qt.2 ⟨x,hx,rfl⟩;have h1:=kf _ _ _ hk.ol _ hm;have h4:=hk.ot;simp only at h1;exact⟨hk.ok _ hm,h1.1,by omega⟩
def AA.Wi (h:AA w o l H vc vo vw vf f)(hk:H.ok){p:Nat}{ob:Ob}(hp:BK H.old p=some (ob,none)){w':Aa}{o':Own}{bM:Ac}
  (hb:Al w' l.h ((H.AB p).1.cells l.a bM vo vw vf) 185)(hw:BB w' l.a l.wd (2*H.size+1) (FH f p H.top ob.size))
  (rc:Row w' o' (l.tc H.use) 3 1 bM (H.cur.length+1) ((H.cur.map fun x=>nv x.1)++[nv H.top]))(ro:Row w' o' (l.to' H.use) 3 1 vo H.old.length (H.old.map fun x=>nv x.1))
  (rw':Row w' o' (l.id,5) 3 1 vw H.Az.length (H.Az.map nv))(rf:Row w' o' (l.id,6) 3 1 vf H.final.length (H.final.map nv))
  (ht:∀ b,b<w.1.size->o' b=o b):AA w' o' l (H.AB p).1 bM vo vw vf (FH f p H.top ob.size):=by
 obtain⟨ho,b1,b2,_⟩:=SG hk hp;have hrd:=kg _ (Ob.AU ho).2;have how:=VJ hp;have hroom:=hk.room;have Aou:=hk.MY;have htop:=ww hk;have hsp:=Wx H;have hpm:=ku hp;rw[H.Cc hp]at hb ⊢;refine⟨hb,hw,?_,?_,rw',rf,(ht _ h.hb.lt).trans h.oh,(ht _ h.B6.BM.lt).trans h.oa,(ht _ h.B6.lt).trans h.ow,?_,?_⟩
 ·show Row w' o' (l.id,if H.use then 4 else 3) _ 1 bM (H.cur++[(H.top,ob)]).length ((H.cur++[(H.top,ob)]).map fun x=>nv x.1)
  have rc':Row w' o' (l.id,if H.use then 4 else 3) _ 1 bM _ _:=rc;simpa using rc'
 ·show Row w' o' (l.id,if H.use then 3 else 4) _ 1 vo (zz H.old p H.top).length ((zz H.old p H.top).map fun x=>nv x.1)
  have e:(zz H.old p H.top).map (fun x=>nv x.1)=H.old.map fun x=>nv x.1:=by
   have:=congrArg (List.map nv) (qi0 H.old p H.top);simpa [List.map_map,Function.comp_def] using this
  rw[e,qla];exact ro
 ·intro x hx
  rcases Qs.1 (show x ∈ H.cur++[(H.top,ob)] from hx) with hx|hx
  ·have h3:=kf _ _ _ hk.cl x hx
   have h4:=kg _ (Ob.AU (hk.ck x hx)).2;have h5:=Hp.apart hk hx hpm;refine (h.E0 x hx).of_eq (hk.ck x hx) fun j h1 h2=>tf (.inl (by omega)) ?_
   simp only at h5;omega
  ·rw[Zc.1 hx]
   exact ((h.BP _ hpm).1 rfl).copied ho (by simp only;omega)
 ·intro x hx
  obtain⟨z,hz,rfl⟩:=Qt.1 (show x ∈ H.old.map _ from hx);obtain⟨k1,k2,k3⟩:=Ka hk hz;have hrz:=kg _ (Ob.AU k1).2;split
  ·rename_i e
   refine⟨fun hn=>by simp at hn,fun q hq=>?_⟩
   simp only[Zd]at hq;subst hq;rw[e];exact LQ _ _ _ _
  ·rename_i e
   have ha:=qnp hk hz hpm (by simpa using e)
   simp only at ha;refine⟨fun hn=>((h.BP z hz).1 hn).of_eq k1 fun j h1 h2=>tf (by omega) (by omega),fun q hq=>?_⟩
   rw[tf (by omega) e]
   exact (h.BP z hz).2 q hq
end
end
section
open Go.RowKit Hp
attribute [local go_sem ↓] Go.wp_at_zero Go.wp_at_succ
def JV {w:Aa}{v:Ac}{p:Nat}(hth:Ab ARt 172 #[v,I Z p] w fun e w'=>e=O (.bool false)/\Ae w.1.size w w') :
  Ab ARt 173 #[v,I Z p] w fun e w'=>e=O (I Z p)/\Ae w.1.size w w':=by
 have HT:=Qa hth;clear hth;go_enter func173,ntmps173;go_wp2_with fail;refine HT.out.mono ?_
 rintro e w1⟨rfl,hb1⟩
 go_wp2_with fail;go_ret;exact⟨rfl,hb1⟩
def qhm {w:Aa}{l:A7}{vc vo vw vf:Ac}{sz tp eT dG Cd dE p q:Nat}{iC:Bool}(hb:Al w l.h #[Ag (some ⟨l.a,0,none⟩),I Z 1,I Z sz,I Z tp,I Z (1+(sz:Int)),I Z sz,I Z eT,vc,vo,I Z 0,.bool iC,I Z dG,I Z Cd,I Z dE,vw,vf] 185)
  (hth:Ab ARt 172 #[Ag (some ⟨l.h,0,none⟩),I Z p] w fun e w'=>e=O (.bool true)/\Ae w.1.size w w')
  (hcp:∀ W,Ae w.1.size w W->Ab ARt 235 #[Ag (some ⟨l.a,0,none⟩),I Z p,Ak #[I Z 1,I Z sz,I Z tp]] W fun e w'=>e=O (Aj #[Ak #[I Z 1,I Z sz,I Z tp],I Z q,I Z 0])/\Ae W.1.size W w') :
  Ab ARt 173 #[Ag (some ⟨l.h,0,none⟩),I Z p] w fun e w'=>e=O (I Z q)/\Ae w.1.size w w':=by
 have HT:=Qa hth;have HC:=Qa hcp;clear hth hcp;go_enter func173,ntmps173;go_wp2_with fail;refine HT.out.mono ?_
 rintro e w1 ⟨rfl,hb1⟩
 have jH:=hb.below hb1 hb.lt;have c:=jH.cell;have s1:=jH.lt;go_upto_region 3 with fail;have k9:=c 9;have k1:=c 1;have k2:=c 2;have k3:=c 3;simp at k9 k1 k2 k3;have hnw:=World.new_ne w1 ⟨l.h,9,none⟩ k9;go_region_held3 (fun w'=>w'.cell? ⟨l.h,9,none⟩=some (I Z 0)/\w'.cell? ⟨l.h,1,none⟩=some (I Z 1)/\w'.cell? ⟨l.h,2,none⟩=some (I Z sz)/\w'.cell? ⟨l.h,3,none⟩=some (I Z tp)) (go_keep) (fail)
 clear c s1 k9 k1 k2 k3 hnw HT;obtain⟨W2,hW2⟩:=Ja0 ((w1.alloc (.cells #[I Z 1,I Z sz,I Z tp] 181)).drew);have eB:Ae w.1.size w W2:=by rw[hW2];exact qf (qc hb1 _)
 have jK:Al W2 l.h #[Ag (some ⟨l.a,0,none⟩),I Z 1,I Z sz,I Z tp,I Z (1+(sz:Int)),I Z sz,I Z eT,vc,vo,I Z 0,.bool iC,I Z dG,I Z Cd,I Z dE,vw,vf] 185:=by rw[hW2];exact qj (jH.alloc _)
 have dF:Al W2 w1.1.size #[I Z 1,I Z sz,I Z tp] 181:=by rw[hW2];exact qj (Al.new _ _ _)
 rw[<-hW2];obtain⟨bS,hbS⟩:=Ja0 w1.1.size;rw[<-hbS]at dF ⊢;clear hW2 hbS hb1 jH hb;have cH:=jK.cell;have cS:=dF.cell;have sH:=jK.lt;have sS:=dF.lt;go_upto_region 4 with fail;go_cut [6,7,8] (fun t6 t7 t8 wx=>∃ Bx,t6=Ag (some ⟨Bx,0,none⟩)/\t7=I Z q/\t8=I Z 0/\Al wx Bx #[I Z 1,I Z sz,I Z tp] 181/\Ae W2.1.size W2 wx)
 case first =>
  go_region_with (first|(go_at_call 235;refine (HC.out _ (by first|exact qf eB|exact qf (qc eB _)|exact qc (qf eB) _)).mono ?_;rintro e w4 ⟨rfl,hb4⟩;try (have dL:Al w4 W2.1.size #[I Z 0,I Z 0,I Z 0] 181:=Al.below (qj (Al.new W2 _ _)) hb4 (by simp);have cB4:=dL.cell;have zB4:=dL.free;have sB4:=dL.lt))|fail)
  all_goals
   go_wp2_with fail;go_meet;first
    | exact⟨_,rfl,rfl,rfl,Al.new _ _ _,qc (qe (qf (qd W2)) hb4) _⟩
    | exact⟨W2.1.size,rfl,rfl,rfl,by simpa using ((dL.set 0 _).set 1 _).set 2 _,zc (zc (zc (qe (qf (qc (qd W2) _)) hb4) (Qk _) _) (Qk _) _) (Qk _) _⟩
 case rest =>
  obtain⟨Bx,rfl,rfl,rfl,jB,hbx⟩:=hcut;have hfin:=Qa (qe eB hbx);have cB:=jB.cell;have cS:=(dF.below hbx dF.lt).cell;clear jK dF cH HC eB hbx jB;go_wp2_with fail;go_ret;exact⟨rfl,hfin.out⟩
def qgu {w:Aa}{l:A7}{vc vo vw vf:Ac}{sz tp eT dG Cd dE p q:Nat}{iC:Bool}(hb:Al w l.h #[Ag (some ⟨l.a,0,none⟩),I Z 1,I Z sz,I Z eT,I Z (1+(sz:Int)),I Z sz,I Z tp,vo,vc,I Z 1,.bool iC,I Z dG,I Z Cd,I Z dE,vw,vf] 185)
  (hth:Ab ARt 172 #[Ag (some ⟨l.h,0,none⟩),I Z p] w fun e w'=>e=O (.bool true)/\Ae w.1.size w w')
  (hcp:∀ W,Ae w.1.size w W->Ab ARt 235 #[Ag (some ⟨l.a,0,none⟩),I Z p,Ak #[I Z (1+(sz:Int)),I Z sz,I Z tp]] W fun e w'=>e=O (Aj #[Ak #[I Z (1+(sz:Int)),I Z sz,I Z tp],I Z q,I Z 0])/\Ae W.1.size W w') :
  Ab ARt 173 #[Ag (some ⟨l.h,0,none⟩),I Z p] w fun e w'=>e=O (I Z q)/\Ae w.1.size w w':=by
 have HT:=Qa hth;have HC:=Qa hcp;clear hth hcp;go_enter func173,ntmps173;go_wp2_with fail;refine HT.out.mono ?_
 rintro e w1 ⟨rfl,hb1⟩
 have jH:=hb.below hb1 hb.lt;have c:=jH.cell;have s1:=jH.lt;go_upto_region 3 with fail;have k9:=c 9;have k1:=c 4;have k2:=c 5;have k3:=c 6;simp at k9 k1 k2 k3;have hnw:=World.new_ne w1 ⟨l.h,9,none⟩ k9;go_region_held3 (fun w'=>w'.cell? ⟨l.h,9,none⟩=some (I Z 1)/\w'.cell? ⟨l.h,4,none⟩=some (I Z (1+(sz:Int)))/\w'.cell? ⟨l.h,5,none⟩=some (I Z sz)/\w'.cell? ⟨l.h,6,none⟩=some (I Z tp)) (go_keep) (fail)
 clear c s1 k9 k1 k2 k3 hnw HT;obtain⟨W2,hW2⟩:=Ja0 ((w1.alloc (.cells #[I Z (1+(sz:Int)),I Z sz,I Z tp] 181)).drew);have eB:Ae w.1.size w W2:=by rw[hW2];exact qf (qc hb1 _)
 have jK:Al W2 l.h #[Ag (some ⟨l.a,0,none⟩),I Z 1,I Z sz,I Z eT,I Z (1+(sz:Int)),I Z sz,I Z tp,vo,vc,I Z 1,.bool iC,I Z dG,I Z Cd,I Z dE,vw,vf] 185:=by rw[hW2];exact qj (jH.alloc _)
 have dF:Al W2 w1.1.size #[I Z (1+(sz:Int)),I Z sz,I Z tp] 181:=by rw[hW2];exact qj (Al.new _ _ _)
 rw[<-hW2];obtain⟨bS,hbS⟩:=Ja0 w1.1.size;rw[<-hbS]at dF ⊢;clear hW2 hbS hb1 jH hb;have cH:=jK.cell;have cS:=dF.cell;have sH:=jK.lt;have sS:=dF.lt;go_upto_region 4 with fail;go_cut [6,7,8] (fun t6 t7 t8 wx=>∃ Bx,t6=Ag (some ⟨Bx,0,none⟩)/\t7=I Z q/\t8=I Z 0/\Al wx Bx #[I Z (1+(sz:Int)),I Z sz,I Z tp] 181/\Ae W2.1.size W2 wx)
 case first =>
  go_region_with (first|(go_at_call 235;refine (HC.out _ (by first|exact qf eB|exact qf (qc eB _)|exact qc (qf eB) _)).mono ?_;rintro e w4 ⟨rfl,hb4⟩;try (have dL:Al w4 W2.1.size #[I Z 0,I Z 0,I Z 0] 181:=Al.below (qj (Al.new W2 _ _)) hb4 (by simp);have cB4:=dL.cell;have zB4:=dL.free;have sB4:=dL.lt))|fail)
  all_goals
   go_wp2_with fail;go_meet;first
    | exact⟨_,rfl,rfl,rfl,Al.new _ _ _,qc (qe (qf (qd W2)) hb4) _⟩
    | exact⟨W2.1.size,rfl,rfl,rfl,by simpa using ((dL.set 0 _).set 1 _).set 2 _,zc (zc (zc (qe (qf (qc (qd W2) _)) hb4) (Qk _) _) (Qk _) _) (Qk _) _⟩
 case rest =>
  obtain⟨Bx,rfl,rfl,rfl,jB,hbx⟩:=hcut;have hfin:=Qa (qe eB hbx);have cB:=jB.cell;have cS:=(dF.below hbx dF.lt).cell;clear jK dF cH HC eB hbx jB;go_wp2_with fail;go_ret;exact⟨rfl,hfin.out⟩
