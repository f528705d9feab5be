import Derived.Test.YtgndecmkhhdkjaaGreatKag
set_option linter.all false
set_option maxRecDepth 1000000
set_option maxHeartbeats 0
open Go renaming World->Aa,Calls->Ab,Value->Ac
open Go.RowKit renaming Below->Ae
open Go.Value renaming int->I,pointer->Ah,tuple->Ak,agg->Al
open Go.IntKind renaming i64->Z
open Go.Ending renaming returned->O
open Go.Proofs.Tryz
open Go.Proofs.Tryz renaming prog->ANa
namespace Go.Proofs.YtgndecmkhhdkjaaGreat
section
open Go.RowKit Hp
section
variable {w : Aa} {o : Own} {l : Bn} {H : Hp} {vc vo vw vf : Ac} {f : Nat -> Nat}
def VJ (H:Hp):H.base H.use+H.size<=H.base (!H.use)\/H.base (!H.use)+H.size<=H.base H.use:=by
 unfold Hp.base
 cases H.use<;>simp<;>omega
def qo3 (hk:H.ok){x y:Nat×Ob×Option Nat}(hx:x ∈ H.old)(hy:y ∈ H.old)(hne:x.1≠y.1):x.1+BG x.2.1.size<=y.1\/y.1+BG y.2.1.size<=x.1:=
 xg _ _ _ hk.ol hk.ok (x.1,x.2.1) (Qt.2 ⟨x,hx,rfl⟩) (y.1,y.2.1) (Qt.2 ⟨y,hy,rfl⟩) hne
def J7 (hk:H.ok){x:Nat×Ob×Option Nat}(hx:x ∈ H.old):x.2.1.ok/\H.base (!H.use)<=x.1/\x.1+BG x.2.1.size<=H.base (!H.use)+H.size:=by
 have hm:(x.1,x.2.1) ∈ H.Ch:=Qt.2 ⟨x,hx,rfl⟩;have h1:=zd _ _ _ hk.ol _ hm;have h4:=hk.ot;simp only at h1;exact⟨hk.ok _ hm,h1.1,by omega⟩
def AN.Vq (h:AN w o l H vc vo vw vf f)(hk:H.ok){p:Nat}{ob:Ob}(hp:Be H.old p=some (ob,none)){w':Aa}{o':Own}{bQ:Ac}
  (hb:An w' l.h ((H.AG p).1.cells l.a bQ vo vw vf) 141)(hw:BR w' l.a l.wd (2*H.size+1) (GC f p H.top ob.size))
  (rc:Row w' o' (l.tc H.use) 3 1 bQ (H.cur.length+1) ((H.cur.map fun x=>nv x.1)++[nv H.top]))(ro:Row w' o' (l.YV H.use) 3 1 vo H.old.length (H.old.map fun x=>nv x.1))
  (rw':Row w' o' (l.id,5) 3 1 vw H.AA.length (H.AA.map nv))(rf:Row w' o' (l.id,6) 3 1 vf H.final.length (H.final.map nv))
  (ht:∀ b,b<w.1.size->o' b=o b):AN w' o' l (H.AG p).1 bQ vo vw vf (GC f p H.top ob.size):=by
 obtain⟨ho,b1,b2,_⟩:=dv hk hp;have hrd:=zi _ (Ob.AP ho).2;have how:=SK hp;have hroom:=hk.room;have Amd:=hk.GL;have htop:=vg hk;have hsp:=VJ H;have hpm:=zy hp;rw[H.Cv hp]at hb ⊢;refine⟨hb,hw,?_,?_,rw',rf,(ht _ h.hb.lt).trans h.oh,(ht _ h.Cr.Cm.lt).trans h.oa,(ht _ h.Cr.lt).trans h.ow,?_,?_,?_⟩
 ·show Row w' o' (l.id,if H.use then 4 else 3) _ 1 bQ (H.cur++[(H.top,ob)]).length ((H.cur++[(H.top,ob)]).map fun x=>nv x.1)
  have rc':Row w' o' (l.id,if H.use then 4 else 3) _ 1 bQ _ _:=rc;simpa using rc'
 ·show Row w' o' (l.id,if H.use then 3 else 4) _ 1 vo (qw H.old p H.top).length ((qw H.old p H.top).map fun x=>nv x.1)
  have e:(qw H.old p H.top).map (fun x=>nv x.1)=H.old.map fun x=>nv x.1:=by
   have:=congrArg (List.map nv) (qi6 H.old p H.top);simpa [List.map_map,Function.comp_def] using this
  rw[e,qk2];exact ro
 ·intro x hx
  rcases Qs.1 (show x ∈ H.cur++[(H.top,ob)] from hx) with hx|hx
  ·have h3:=zd _ _ _ hk.cl x hx
   have h4:=zi _ (Ob.AP (hk.ck x hx)).2;have h5:=Hp.apart hk hx hpm;refine (h.Fb x hx).of_eq (hk.ck x hx) fun j h1 h2=>fg (.inl (by omega)) ?_
   simp only at h5;omega
  ·rw[Zb.1 hx]
   exact ((h.Ch _ hpm).1 rfl).copied ho (by simp only;omega)
 ·intro x hx
  obtain⟨z,hz,rfl⟩:=Qt.1 (show x ∈ H.old.map _ from hx);obtain⟨k1,k2,k3⟩:=J7 hk hz;have hrz:=zi _ (Ob.AP k1).2;split
  ·rename_i e
   refine⟨fun hn=>by simp at hn,fun q hq=>?_⟩
   simp only[Zc]at hq;subst hq;rw[e];exact LK _ _ _ _
  ·rename_i e
   have ha:=qo3 hk hz hpm (by simpa using e)
   simp only at ha;refine⟨fun hn=>((h.Ch z hz).1 hn).of_eq k1 fun j h1 h2=>fg (by omega) (by omega),fun q hq=>?_⟩
   rw[fg (by omega) e]
   exact (h.Ch z hz).2 q hq
 ·have:=H.Bt H.use
  have:=H.Bt !H.use;rw[fg (by omega) (by omega)];exact h.zr
end
end
section
open Go.RowKit Hp
attribute [local go_sem ↓] Go.wp_at_zero Go.wp_at_succ
def JM {w:Aa}{v:Ac}{p:Nat}(hth:Ab ANa 185 #[v,p] w fun e w'=>e=O (.bool false)/\Ae w w w') :
  Ab ANa 122 #[v,p] w fun e w'=>e=O p/\Ae w w w':=by
 have HT:=Qa hth;clear hth;go_in;go_wp2_with fail;refine HT.o.mono ?_
 rintro e w1⟨rfl,hb1⟩
 go_wp2_with fail;go_ret;exact⟨rfl,hb1⟩
def qhj {w:Aa}{l:Bn}{vc vo vw vf:Ac}{sz tp eP dF CE dB p q:Nat}{gN:Bool}(hb:An w l.h #[Ah (some ⟨l.a,0,none⟩),I Z 1,sz,tp,I Z (1+(sz:Int)),sz,eP,vc,vo,(),gN,dF,I Z CE,dB,vw,vf] 141)
  (hth:Ab ANa 185 #[Ah (some ⟨l.h,0,none⟩),p] w fun e w'=>e=O (.bool true)/\Ae w w w')
  (hcp:∀ W,Ae w w W->Ab ANa 186 #[Ah (some ⟨l.a,0,none⟩),p,Al #[I Z 1,sz,tp]] W fun e w'=>e=O (Ak #[Al #[I Z 1,sz,tp],q,()])/\Ae W W w') :
  Ab ANa 122 #[Ah (some ⟨l.h,0,none⟩),p] w fun e w'=>e=O q/\Ae w w w':=by
 have HT:=Qa hth;have HC:=Qa hcp;clear hth hcp;go_in;go_wp2_with fail;refine HT.o.mono ?_
 rintro e w1 ⟨rfl,hb1⟩
 have jH:=hb.below hb1 hb.lt;have c:=jH.cell;have s1:=jH.lt;go_upto_region 3 with fail;have k9:=c 9;have k1:=c 1;have k2:=c 2;have k3:=c 3;simp at k9 k1 k2 k3;have hnw:=World.new_ne w1 ⟨l.h,9,none⟩ k9;go_region_held3 (fun w'=>w'.cell? ⟨l.h,9,none⟩=some (I Z 0)/\w'.cell? ⟨l.h,1,none⟩=some (I Z 1)/\w'.cell? ⟨l.h,2,none⟩=some (I Z sz)/\w'.cell? ⟨l.h,3,none⟩=some (I Z tp)) (go_keep) (fail)
 clear c s1 k9 k1 k2 k3 hnw HT;obtain⟨W2,hW2⟩:=Ja0 ((w1.alloc (.cells #[I Z 1,sz,tp] 135)).drew);have eu:Ae w w W2:=by rw[hW2];exact qf (qc hb1 _)
 have iK:An W2 l.h #[Ah (some ⟨l.a,0,none⟩),I Z 1,sz,tp,I Z (1+(sz:Int)),sz,eP,vc,vo,(),gN,dF,I Z CE,dB,vw,vf] 141:=by rw[hW2];exact qj (jH.alloc _)
 have dC:An W2 w1 #[I Z 1,sz,tp] 135:=by rw[hW2];exact qj (An.new _ _ _)
 rw[<-hW2];obtain⟨bS,hbS⟩:=Ja0 w1.1.size;rw[<-hbS]at dC ⊢;clear hW2 hbS hb1 jH hb;have cH:=iK.cell;have cS:=dC.cell;have sH:=iK.lt;have sS:=dC.lt;go_upto_region 4 with fail;go_cut [6,7,8] (fun t6 t7 t8 wx=>∃ Bx,t6=Ah (some ⟨Bx,0,none⟩)/\t7=I Z q/\t8=I Z 0/\An wx Bx #[I Z 1,sz,tp] 135/\Ae W2 W2 wx)
 case first =>
  go_region_with (first|(go_at_call 186;refine (HC.o _ (by first|exact qf eu|exact qf (qc eu _)|exact qc (qf eu) _)).mono ?_;rintro e w4 ⟨rfl,hb4⟩;try (have dJ:An w4 W2 #[(),(),()] 135:=An.below (qj (An.new W2 _ _)) hb4 (by simp);have yQ:=dJ.cell;have zB4:=dJ.free;have sB4:=dJ.lt))|fail)
  all_goals
   go_wp2_with fail;go_meet;first
    | exact⟨_,rfl,rfl,rfl,An.new _ _ _,qc (qe (qf (qd W2)) hb4) _⟩
    | exact⟨W2.1.size,rfl,rfl,rfl,by simpa using ((dJ.set 0 _).set 1 _).set 2 _,qo (qo (qo (qe (qf (qc (qd W2) _)) hb4) (Qk _) _) (Qk _) _) (Qk _) _⟩
 case rest =>
  obtain⟨Bx,rfl,rfl,rfl,jB,hbx⟩:=hcut;have hfin:=Qa (qe eu hbx);have cB:=jB.cell;have cS:=(dC.below hbx dC.lt).cell;clear iK dC cH HC eu hbx jB;go_wp2_with fail;go_ret;exact⟨rfl,hfin.o⟩
def qh2 {w:Aa}{l:Bn}{vc vo vw vf:Ac}{sz tp eP dF CE dB p q:Nat}{gN:Bool}(hb:An w l.h #[Ah (some ⟨l.a,0,none⟩),I Z 1,sz,eP,I Z (1+(sz:Int)),sz,tp,vo,vc,I Z 1,gN,dF,I Z CE,dB,vw,vf] 141)
  (hth:Ab ANa 185 #[Ah (some ⟨l.h,0,none⟩),p] w fun e w'=>e=O (.bool true)/\Ae w w w')
  (hcp:∀ W,Ae w w W->Ab ANa 186 #[Ah (some ⟨l.a,0,none⟩),p,Al #[I Z (1+(sz:Int)),sz,tp]] W fun e w'=>e=O (Ak #[Al #[I Z (1+(sz:Int)),sz,tp],q,()])/\Ae W W w') :
  Ab ANa 122 #[Ah (some ⟨l.h,0,none⟩),p] w fun e w'=>e=O q/\Ae w w w':=by
 have HT:=Qa hth;have HC:=Qa hcp;clear hth hcp;go_in;go_wp2_with fail;refine HT.o.mono ?_
 rintro e w1 ⟨rfl,hb1⟩
 have jH:=hb.below hb1 hb.lt;have c:=jH.cell;have s1:=jH.lt;go_upto_region 3 with fail;have k9:=c 9;have k1:=c 4;have k2:=c 5;have k3:=c 6;simp at k9 k1 k2 k3;have hnw:=World.new_ne w1 ⟨l.h,9,none⟩ k9;go_region_held3 (fun w'=>w'.cell? ⟨l.h,9,none⟩=some (I Z 1)/\w'.cell? ⟨l.h,4,none⟩=some (I Z (1+(sz:Int)))/\w'.cell? ⟨l.h,5,none⟩=some (I Z sz)/\w'.cell? ⟨l.h,6,none⟩=some (I Z tp)) (go_keep) (fail)
 clear c s1 k9 k1 k2 k3 hnw HT;obtain⟨W2,hW2⟩:=Ja0 ((w1.alloc (.cells #[I Z (1+(sz:Int)),sz,tp] 135)).drew);have eu:Ae w w W2:=by rw[hW2];exact qf (qc hb1 _)
 have iK:An W2 l.h #[Ah (some ⟨l.a,0,none⟩),I Z 1,sz,eP,I Z (1+(sz:Int)),sz,tp,vo,vc,I Z 1,gN,dF,I Z CE,dB,vw,vf] 141:=by rw[hW2];exact qj (jH.alloc _)
 have dC:An W2 w1 #[I Z (1+(sz:Int)),sz,tp] 135:=by rw[hW2];exact qj (An.new _ _ _)
 rw[<-hW2];obtain⟨bS,hbS⟩:=Ja0 w1.1.size;rw[<-hbS]at dC ⊢;clear hW2 hbS hb1 jH hb;have cH:=iK.cell;have cS:=dC.cell;have sH:=iK.lt;have sS:=dC.lt;go_upto_region 4 with fail;go_cut [6,7,8] (fun t6 t7 t8 wx=>∃ Bx,t6=Ah (some ⟨Bx,0,none⟩)/\t7=I Z q/\t8=I Z 0/\An wx Bx #[I Z (1+(sz:Int)),sz,tp] 135/\Ae W2 W2 wx)
 case first =>
  go_region_with (first|(go_at_call 186;refine (HC.o _ (by first|exact qf eu|exact qf (qc eu _)|exact qc (qf eu) _)).mono ?_;rintro e w4 ⟨rfl,hb4⟩;try (have dJ:An w4 W2 #[(),(),()] 135:=An.below (qj (An.new W2 _ _)) hb4 (by simp);have yQ:=dJ.cell;have zB4:=dJ.free;have sB4:=dJ.lt))|fail)
  all_goals
   go_wp2_with fail;go_meet;first
    | exact⟨_,rfl,rfl,rfl,An.new _ _ _,qc (qe (qf (qd W2)) hb4) _⟩
    | exact⟨W2.1.size,rfl,rfl,rfl,by simpa using ((dJ.set 0 _).set 1 _).set 2 _,qo (qo (qo (qe (qf (qc (qd W2) _)) hb4) (Qk _) _) (Qk _) _) (Qk _) _⟩
 case rest =>
  obtain⟨Bx,rfl,rfl,rfl,jB,hbx⟩:=hcut;have hfin:=Qa (qe eu hbx);have cB:=jB.cell;have cS:=(dC.below hbx dC.lt).cell;clear iK dC cH HC eu hbx jB;go_wp2_with fail;go_ret;exact⟨rfl,hfin.o⟩
