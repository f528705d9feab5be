import Derived.Test.YteehgedabdchcaaGreatKag
set_option linter.all false
set_option maxRecDepth 1000000
set_option maxHeartbeats 0
open Go renaming World->Aa,Calls->Ab,Value->Ac
open Go.RowKit renaming Below->Ae
open Go.Value renaming int->I,pointer->Ah,tuple->Ak,agg->Al
open Go.IntKind renaming i64->Z
open Go.Ending renaming returned->O
open Go.Proofs.Tryz
open Go.Proofs.Tryz renaming prog->AId
namespace Go.Proofs.YteehgedabdchcaaGreat
section
open Go.RowKit Hp
section
variable {w : Aa} {o : Own} {l : Bo} {H : Hp} {vc vo vw vf : Ac} {f : Nat -> Nat}
def UO (H:Hp):H.base H.use+H.size<=H.base (!H.use)\/H.base (!H.use)+H.size<=H.base H.use:=by
 unfold Hp.base
 cases H.use<;>simp<;>omega
def qpy (hk:H.ok){x y:Nat×Ob×Option Nat}(hx:x ∈ H.old)(hy:y ∈ H.old)(hne:x.1≠y.1):x.1+BJ x.2.1.size<=y.1\/y.1+BJ y.2.1.size<=x.1:=
 ug _ _ _ hk.ol hk.ok (x.1,x.2.1) (Qt.2 ⟨x,hx,rfl⟩) (y.1,y.2.1) (Qt.2 ⟨y,hy,rfl⟩) hne
def JR (hk:H.ok){x:Nat×Ob×Option Nat}(hx:x ∈ H.old):x.2.1.ok/\H.base (!H.use)<=x.1/\x.1+BJ x.2.1.size<=H.base (!H.use)+H.size:=by
 have hm:(x.1,x.2.1) ∈ H.Cs:=Qt.2 ⟨x,hx,rfl⟩;have h1:=zr _ _ _ hk.ol _ hm;have h4:=hk.ot;simp only at h1;exact⟨hk.ok _ hm,h1.1,by omega⟩
def AN.UB (h:AN w o l H vc vo vw vf f)(hk:H.ok){p:Nat}{ob:Ob}(hp:Bg H.old p=some (ob,none)){w':Aa}{o':Own}{bX:Ac}
  (hb:An w' l.h ((H.AG p).1.cells l.a bX vo vw vf) 185)(hw:B6 w' l.a l.wd (2*H.size+1) (Gt f p H.top ob.size))
  (rc:Row w' o' (l.tc H.use) 3 1 bX (H.cur.length+1) ((H.cur.map fun x=>nv x.1)++[nv H.top]))(ro:Row w' o' (l.XV H.use) 3 1 vo H.old.length (H.old.map fun x=>nv x.1))
  (rw':Row w' o' (l.id,5) 3 1 vw H.AA.length (H.AA.map nv))(rf:Row w' o' (l.id,6) 3 1 vf H.final.length (H.final.map nv))
  (ht:∀ b,b<w.1.size->o' b=o b):AN w' o' l (H.AG p).1 bX vo vw vf (Gt f p H.top ob.size):=by
 obtain⟨ho,b1,b2,_⟩:=fj hk hp;have hrd:=zu _ (Ob.AW ho).2;have how:=Sb hp;have hroom:=hk.room;have Alk:=hk.JU;have htop:=kw hk;have hsp:=UO H;have hpm:=ke hp;rw[H.Cu hp]at hb ⊢;refine⟨hb,hw,?_,?_,rw',rf,(ht _ h.hb.lt).trans h.oh,(ht _ h.Cq.Cl.lt).trans h.oa,(ht _ h.Cq.lt).trans h.ow,?_,?_⟩
 ·show Row w' o' (l.id,if H.use then 4 else 3) _ 1 bX (H.cur++[(H.top,ob)]).length ((H.cur++[(H.top,ob)]).map fun x=>nv x.1)
  have rc':Row w' o' (l.id,if H.use then 4 else 3) _ 1 bX _ _:=rc;simpa using rc'
 ·show Row w' o' (l.id,if H.use then 3 else 4) _ 1 vo (qx H.old p H.top).length ((qx H.old p H.top).map fun x=>nv x.1)
  have e:(qx H.old p H.top).map (fun x=>nv x.1)=H.old.map fun x=>nv x.1:=by
   have:=congrArg (List.map nv) (Y2 H.old p H.top);simpa [List.map_map,Function.comp_def] using this
  rw[e,qkr];exact ro
 ·intro x hx
  rcases Qs.1 (show x ∈ H.cur++[(H.top,ob)] from hx) with hx|hx
  ·have h3:=zr _ _ _ hk.cl x hx
   have h4:=zu _ (Ob.AW (hk.ck x hx)).2;have h5:=Hp.apart hk hx hpm;refine (h.FC x hx).of_eq (hk.ck x hx) fun j h1 h2=>tw (.inl (by omega)) ?_
   simp only at h5;omega
  ·rw[Zb.1 hx]
   exact ((h.Cs _ hpm).1 rfl).copied ho (by simp only;omega)
 ·intro x hx
  obtain⟨z,hz,rfl⟩:=Qt.1 (show x ∈ H.old.map _ from hx);obtain⟨k1,k2,k3⟩:=JR hk hz;have hrz:=zu _ (Ob.AW k1).2;split
  ·rename_i e
   refine⟨fun hn=>by simp at hn,fun q hq=>?_⟩
   simp only[Zc]at hq;subst hq;rw[e];exact Lv _ _ _ _
  ·rename_i e
   have ha:=qpy hk hz hpm (by simpa using e)
   simp only at ha;refine⟨fun hn=>((h.Cs z hz).1 hn).of_eq k1 fun j h1 h2=>tw (by omega) (by omega),fun q hq=>?_⟩
   rw[tw (by omega) e]
   exact (h.Cs z hz).2 q hq
end
end
section
open Go.RowKit Hp
attribute [local go_sem ↓] Go.wp_at_zero Go.wp_at_succ
def JD {w:Aa}{v:Ac}{p:Nat}(hth:Ab AId 172 #[v,p] w fun e w'=>e=O (.bool false)/\Ae w.1.size w w') :
  Ab AId 173 #[v,p] w fun e w'=>e=O p/\Ae w.1.size w w':=by
 have HT:=Qa hth;clear hth;go_in;go_wp2_with fail;refine HT.o.mono ?_
 rintro e w1⟨rfl,hb1⟩
 go_wp2_with fail;go_ret;exact⟨rfl,hb1⟩
def YF {w:Aa}{l:Bo}{vc vo vw vf:Ac}{sz tp eT dK CE dH p q:Nat}{gV:Bool}(hb:An w l.h #[Ah (some ⟨l.a,0,none⟩),I Z 1,sz,tp,I Z (1+(sz:Int)),sz,eT,vc,vo,I Z 0,.bool gV,dK,I Z CE,dH,vw,vf] 185)
  (hth:Ab AId 172 #[Ah (some ⟨l.h,0,none⟩),p] w fun e w'=>e=O (.bool true)/\Ae w.1.size w w')
  (hcp:∀ W,Ae w.1.size w W->Ab AId 235 #[Ah (some ⟨l.a,0,none⟩),p,Al #[I Z 1,sz,tp]] W fun e w'=>e=O (Ak #[Al #[I Z 1,sz,tp],q,I Z 0])/\Ae W.1.size W w') :
  Ab AId 173 #[Ah (some ⟨l.h,0,none⟩),p] w fun e w'=>e=O q/\Ae w.1.size w w':=by
 have HT:=Qa hth;have HC:=Qa hcp;clear hth hcp;go_in;go_wp2_with fail;refine HT.o.mono ?_
 rintro e w1 ⟨rfl,hb1⟩
 have jH:=hb.below hb1 hb.lt;have c:=jH.cell;have s1:=jH.lt;go_upto_region 3 with fail;have k9:=c 9;have k1:=c 1;have k2:=c 2;have k3:=c 3;simp at k9 k1 k2 k3;have hnw:=World.new_ne w1 ⟨l.h,9,none⟩ k9;go_region_held3 (fun w'=>w'.cell? ⟨l.h,9,none⟩=some (I Z 0)/\w'.cell? ⟨l.h,1,none⟩=some (I Z 1)/\w'.cell? ⟨l.h,2,none⟩=some (I Z sz)/\w'.cell? ⟨l.h,3,none⟩=some (I Z tp)) (go_keep) (fail)
 clear c s1 k9 k1 k2 k3 hnw HT;obtain⟨W2,hW2⟩:=Ja0 ((w1.alloc (.cells #[I Z 1,sz,tp] 181)).drew);have eB:Ae w.1.size w W2:=by rw[hW2];exact qe (qa hb1 _)
 have iP:An W2 l.h #[Ah (some ⟨l.a,0,none⟩),I Z 1,sz,tp,I Z (1+(sz:Int)),sz,eT,vc,vo,I Z 0,.bool gV,dK,I Z CE,dH,vw,vf] 185:=by rw[hW2];exact qi (jH.alloc _)
 have dJ:An W2 w1.1.size #[I Z 1,sz,tp] 181:=by rw[hW2];exact qi (An.new _ _ _)
 rw[<-hW2];obtain⟨bS,hbS⟩:=Ja0 w1.1.size;rw[<-hbS]at dJ ⊢;clear hW2 hbS hb1 jH hb;have cH:=iP.cell;have cS:=dJ.cell;have sH:=iP.lt;have sS:=dJ.lt;go_upto_region 4 with fail;go_cut [6,7,8] (fun t6 t7 t8 wx=>∃ Bx,t6=Ah (some ⟨Bx,0,none⟩)/\t7=I Z q/\t8=I Z 0/\An wx Bx #[I Z 1,sz,tp] 181/\Ae W2.1.size W2 wx)
 case first =>
  go_region_with (first|(go_at_call 235;refine (HC.o _ (by first|exact qe eB|exact qe (qa eB _)|exact qa (qe eB) _)).mono ?_;rintro e w4 ⟨rfl,hb4⟩;try (have dP:An w4 W2.1.size #[I Z 0,I Z 0,I Z 0] 181:=An.below (qi (An.new W2 _ _)) hb4 (by simp);have yR:=dP.cell;have zB4:=dP.free;have sB4:=dP.lt))|fail)
  all_goals
   go_wp2_with fail;go_meet;first
    | exact⟨_,rfl,rfl,rfl,An.new _ _ _,qa (qd (qe (qc W2)) hb4) _⟩
    | exact⟨W2.1.size,rfl,rfl,rfl,by simpa using ((dP.set 0 _).set 1 _).set 2 _,qm (qm (qm (qd (qe (qa (qc W2) _)) hb4) (Qk _) _) (Qk _) _) (Qk _) _⟩
 case rest =>
  obtain⟨Bx,rfl,rfl,rfl,jB,hbx⟩:=hcut;have hfin:=Qa (qd eB hbx);have cB:=jB.cell;have cS:=(dJ.below hbx dJ.lt).cell;clear iP dJ cH HC eB hbx jB;go_wp2_with fail;go_ret;exact⟨rfl,hfin.o⟩
def Yz {w:Aa}{l:Bo}{vc vo vw vf:Ac}{sz tp eT dK CE dH p q:Nat}{gV:Bool}(hb:An w l.h #[Ah (some ⟨l.a,0,none⟩),I Z 1,sz,eT,I Z (1+(sz:Int)),sz,tp,vo,vc,I Z 1,.bool gV,dK,I Z CE,dH,vw,vf] 185)
  (hth:Ab AId 172 #[Ah (some ⟨l.h,0,none⟩),p] w fun e w'=>e=O (.bool true)/\Ae w.1.size w w')
  (hcp:∀ W,Ae w.1.size w W->Ab AId 235 #[Ah (some ⟨l.a,0,none⟩),p,Al #[I Z (1+(sz:Int)),sz,tp]] W fun e w'=>e=O (Ak #[Al #[I Z (1+(sz:Int)),sz,tp],q,I Z 0])/\Ae W.1.size W w') :
  Ab AId 173 #[Ah (some ⟨l.h,0,none⟩),p] w fun e w'=>e=O q/\Ae w.1.size w w':=by
 have HT:=Qa hth;have HC:=Qa hcp;clear hth hcp;go_in;go_wp2_with fail;refine HT.o.mono ?_
 rintro e w1 ⟨rfl,hb1⟩
 have jH:=hb.below hb1 hb.lt;have c:=jH.cell;have s1:=jH.lt;go_upto_region 3 with fail;have k9:=c 9;have k1:=c 4;have k2:=c 5;have k3:=c 6;simp at k9 k1 k2 k3;have hnw:=World.new_ne w1 ⟨l.h,9,none⟩ k9;go_region_held3 (fun w'=>w'.cell? ⟨l.h,9,none⟩=some (I Z 1)/\w'.cell? ⟨l.h,4,none⟩=some (I Z (1+(sz:Int)))/\w'.cell? ⟨l.h,5,none⟩=some (I Z sz)/\w'.cell? ⟨l.h,6,none⟩=some (I Z tp)) (go_keep) (fail)
 clear c s1 k9 k1 k2 k3 hnw HT;obtain⟨W2,hW2⟩:=Ja0 ((w1.alloc (.cells #[I Z (1+(sz:Int)),sz,tp] 181)).drew);have eB:Ae w.1.size w W2:=by rw[hW2];exact qe (qa hb1 _)
 have iP:An W2 l.h #[Ah (some ⟨l.a,0,none⟩),I Z 1,sz,eT,I Z (1+(sz:Int)),sz,tp,vo,vc,I Z 1,.bool gV,dK,I Z CE,dH,vw,vf] 185:=by rw[hW2];exact qi (jH.alloc _)
 have dJ:An W2 w1.1.size #[I Z (1+(sz:Int)),sz,tp] 181:=by rw[hW2];exact qi (An.new _ _ _)
 rw[<-hW2];obtain⟨bS,hbS⟩:=Ja0 w1.1.size;rw[<-hbS]at dJ ⊢;clear hW2 hbS hb1 jH hb;have cH:=iP.cell;have cS:=dJ.cell;have sH:=iP.lt;have sS:=dJ.lt;go_upto_region 4 with fail;go_cut [6,7,8] (fun t6 t7 t8 wx=>∃ Bx,t6=Ah (some ⟨Bx,0,none⟩)/\t7=I Z q/\t8=I Z 0/\An wx Bx #[I Z (1+(sz:Int)),sz,tp] 181/\Ae W2.1.size W2 wx)
 case first =>
  go_region_with (first|(go_at_call 235;refine (HC.o _ (by first|exact qe eB|exact qe (qa eB _)|exact qa (qe eB) _)).mono ?_;rintro e w4 ⟨rfl,hb4⟩;try (have dP:An w4 W2.1.size #[I Z 0,I Z 0,I Z 0] 181:=An.below (qi (An.new W2 _ _)) hb4 (by simp);have yR:=dP.cell;have zB4:=dP.free;have sB4:=dP.lt))|fail)
  all_goals
   go_wp2_with fail;go_meet;first
    | exact⟨_,rfl,rfl,rfl,An.new _ _ _,qa (qd (qe (qc W2)) hb4) _⟩
    | exact⟨W2.1.size,rfl,rfl,rfl,by simpa using ((dP.set 0 _).set 1 _).set 2 _,qm (qm (qm (qd (qe (qa (qc W2) _)) hb4) (Qk _) _) (Qk _) _) (Qk _) _⟩
 case rest =>
  obtain⟨Bx,rfl,rfl,rfl,jB,hbx⟩:=hcut;have hfin:=Qa (qd eB hbx);have cB:=jB.cell;have cS:=(dJ.below hbx dJ.lt).cell;clear iP dJ cH HC eB hbx jB;go_wp2_with fail;go_ret;exact⟨rfl,hfin.o⟩
