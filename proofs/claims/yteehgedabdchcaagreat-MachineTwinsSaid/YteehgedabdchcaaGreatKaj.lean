import Derived.Test.YteehgedabdchcaaGreatKah
import Derived.Test.YteehgedabdchcaaGreatKai
set_option linter.all false
set_option maxRecDepth 1000000
set_option maxHeartbeats 0
open Go renaming World->Aa,Calls->Ab,Value->Ac
open Go.RowKit renaming Below->Ae
open Go.Value renaming int->I,pointer->Ah,slice->Ai,tuple->Ak,agg->Al
open Go.IntKind renaming i64->Z
open Go.Ending renaming returned->O
open List renaming eq_nil_of_length_eq_zero->Ad,getElem?_eq_none_iff->aa,getD->aj,mem_cons->ay
open Bool renaming false_eq_true->Aj,and_eq_true->af,eq_iff_iff->ai
open Nat renaming zero_add->ag
open Go.Proofs.Tryz
open Go.Proofs.Tryz renaming prog->AId
open Go.Obj renaming cells->AIe
namespace Go.Proofs.YteehgedabdchcaaGreat
section
open Go.RowKit Hp
section
variable {w : Aa} {o : Own} {l : Bo} {H : Hp} {vc vo vw vf : Ac} {f : Nat -> Nat}
def zd (l:Bo)(t:Tag):Prop:=t.1=l.id/\t.2<=6
def LS (l:Bo)(u:Bool):zd l (l.tc u):=by unfold zd Bo.tc;cases u<;>simp
def Gd (w:Aa)(o:Own)(l:Bo)(H':Hp)(vo vw vf:Ac)(w':Aa):Prop:=
 ∃ bX f' o',AN w' o' l H' bX vo vw vf f'/\Stp (zd l) o o' w w'
def AN.B3 (h:AN w o l H vc vo vw vf f){w':Aa}(hb:Ae w.1.size w w'):Gd w o l H vo vw vf w':=⟨vc,f,o,h.below hb,Stp.of_below hb⟩
def AN.FJ (h:AN w o l H vc vo vw vf f):l.h≠l.wd:=by
 intro e;have h1:=h.oh;rw[e,h.ow]at h1;simp at h1
def br (h:AN w o l H vc vo vw vf f) (hk:H.ok) (p:Nat) :
  Ab AId 173 #[Ah (some ⟨l.h,0,none⟩),p] w fun e w'=>e=O (I Z ((H.AG p).2:Nat))/\Gd w o l (H.AG p).1 vo vw vf w':=by
 have hth:=bm h hk p
 cases hp:Bg H.old p with
 | none =>
  rw[hp]at hth;rw[H.CV hp];refine (JD hth).mono ?_;rintro e w' ⟨rfl,hb⟩;exact⟨rfl,h.B3 hb⟩
 | some z =>
  obtain⟨ob,g⟩:=z;rw[hp]at hth;have hsz:=hk.sz;have hroom:=hk.room;have htop:=kw hk;have hm:=ke hp;obtain⟨ho,b1,b2,b3⟩:=fj hk hp;have hrd:=zu _ (Ob.AW ho).2;have cO:=Ob.AW ho;have hb0:=H.Cd (!H.use);have hb1:=H.Cd H.use
  cases g with
  | some q =>
   rw[H.CU hp];have hq:=hk.gone _ hm q rfl;have hf:=(h.Cs _ hm).2 q rfl;simp only at hq hf;have hcp:=fun (W:Aa) (hb:Ae w.1.size w W)=>qpq (b:=H.base H.use) (s:=H.size) (t:=H.top) (h.Cq.below hb) (show p<2*H.size+1 by omega) hq.1 hq.2 hf
   have hbl:=h.hb;rcases (show H.use=false\/H.use=true by cases H.use<;>simp) with hu|hu
   ·have e0:H.base H.use=1:=by rw[hu];rfl
    have e1:∀ (v1:Ac),H.cells l.a v1 vo vw vf=#[Ah (some ⟨l.a,0,none⟩),I Z 1,H.size,H.top,I Z (1+(H.size:Int)),H.size,H.B5,v1,vo,I Z 0,.bool H.AL,H.BB,H.scan,H.Ap,vw,vf]:=fun v1=>by
     unfold Hp.cells;simp only[hu,Aj,if_false]
    rw[e0]at hcp;rw[e1]at hbl;refine (YF hbl hth hcp).mono ?_;rintro e w' ⟨rfl,hb⟩;exact⟨rfl,h.B3 hb⟩
   ·have e0:(H.base H.use:Int)=1+(H.size:Int):=by rw[hu];show (((1+H.size:Nat)):Int)=_;omega
    have e1:∀ (v1:Ac),H.cells l.a v1 vo vw vf=#[Ah (some ⟨l.a,0,none⟩),I Z 1,H.size,H.B5,I Z (1+(H.size:Int)),H.size,H.top,vo,v1,I Z 1,.bool H.AL,H.BB,H.scan,H.Ap,vw,vf]:=fun v1=>by
     unfold Hp.cells;simp only[hu,if_true]
    unfold DG at hcp;rw[e0]at hcp;rw[e1]at hbl;refine (Yz hbl hth hcp).mono ?_;rintro e w' ⟨rfl,hb⟩;exact⟨rfl,h.B3 hb⟩
  | none =>
   have Alk:=hk.JU;have hge:=Sb hp;have hof:=(h.Cs _ hm).1 rfl;simp only at hof;have hcp:=fun (W:Aa) (hb:Ae w.1.size w W)=>Ha (b:=H.base H.use) (s:=H.size) (t:=H.top) (h.Cq.below hb) hof ho (by omega) ⟨by omega,by omega,by omega,by omega⟩ (by omega) (by omega) (by omega)
   have hbl:=h.hb;have hQ:∀ W:Aa,B6 W l.a l.wd (2*H.size+1) (Gt f p H.top ob.size)->Wr l.wd w W ->
     An (W.setCell ⟨l.h,11,none⟩ (I Z ((H.BB-BJ ob.size:Nat):Int))) l.h ({ H with BB:=H.BB-BJ ob.size }.cells l.a vc vo vw vf) 185 ->
     Ab AId 230 #[Ah (some ⟨l.h,0,none⟩),DG (H.base H.use) H.size (H.top+BJ ob.size),H.top] (W.setCell ⟨l.h,11,none⟩ (I Z ((H.BB-BJ ob.size:Nat):Int))) fun e w'=>e=O (Ak #[])/\Gd w o l (H.AG p).1 vo vw vf w':=by
    intro W hWd iX hB;have hs0:Stp (zd l) o o w W:=Stp.Cg iX (by rw[h.ow];exact⟨rfl,by simp⟩)
    have hs1:Stp (zd l) o o w (W.setCell ⟨l.h,11,none⟩ (I Z ((H.BB-BJ ob.size:Nat):Int))):=hs0.setCell (by rw[h.oh];exact⟨rfl,by simp⟩) _
    have tH:Stp (fun t=>t=(l.id,2)\/t=(l.id,0)) o o w (W.setCell ⟨l.h,11,none⟩ (I Z ((H.BB-BJ ob.size:Nat):Int))):=(Stp.Cg iX (by rw[h.ow];exact .inl rfl)).setCell (by rw[h.oh];exact .inr rfl) _
    have hrc:=h.rc.Ar tH (by cases H.use<;>simp)
    have hro:=h.ro.Ar tH (by cases H.use<;>simp)
    have hrw:=h.rw.Ar tH (by simp)
    have hrf:=h.rf.Ar tH (by simp)
    have Akj:=hWd.wr (Wr.set l.h W 11 (I Z ((H.BB-BJ ob.size:Nat):Int))) (by intro e;have h1:=h.oa;rw[e,h.oh]at h1;simp at h1) (fun e=>h.FJ e.symm)
    refine (qn9 (H:={ H with BB:=H.BB-BJ ob.size }) hB hrc (by
     have:=mg _ _ _ hk.cl hk.ck;omega) h.oh H.top (H.top+BJ ob.size)).mono ?_
    rintro e w' ⟨rfl,bX,o',g1,g2,g3⟩;have hne:∀ j,j≠0->(l.id,j)≠l.tc H.use->¬((l.id,j)=(l.id,0)\/(l.id,j)=l.tc H.use):=fun j h1 h2 h=>h.elim (fun e=>h1 (by simpa using e)) h2
    have sQ:∀ j,j≠3->j≠4->(l.id,j)≠l.tc H.use:=fun j h3 h4 e=>by unfold Bo.tc at e;cases hu:H.use<;>rw[hu]at e<;>simp at e<;>omega
    refine⟨rfl,bX,Gt f p H.top ob.size,o',?_,?_⟩
    ·refine h.UB hk hp (by rw[H.Cu hp];exact g1) (Akj.Ar g3 ?_ ?_) g2 (hro.Ar g3 ?_) (hrw.Ar g3 (hne _ (by simp) (sQ _ (by simp) (by simp)))) (hrf.Ar g3 (hne _ (by simp) (sQ _ (by simp) (by simp)))) (fun b hb=>(g3.tags b (Qn hb hs1.size)).trans (hs1.tags b hb))
     ·rw[h.oa];exact hne _ (by simp) (sQ _ (by simp) (by simp))
     ·rw[h.ow];exact hne _ (by simp) (sQ _ (by simp) (by simp))
     ·unfold Bo.tc;cases H.use<;>simp
    ·exact hs1.trans (g3.mono fun t ht=>by
      rcases ht with rfl|rfl
      ·exact⟨rfl,by simp⟩
      ·exact LS _ _)
   rcases (show H.use=false\/H.use=true by cases H.use<;>simp) with hu|hu
   ·have e0:H.base H.use=1:=by rw[hu];rfl
    have e1:∀ (x:Nat) (v1:Ac),{ H with BB:=x }.cells l.a v1 vo vw vf=#[Ah (some ⟨l.a,0,none⟩),I Z 1,H.size,H.top,I Z (1+(H.size:Int)),H.size,H.B5,v1,vo,I Z 0,.bool H.AL,x,H.scan,H.Ap,vw,vf]:=fun x v1=>by
     unfold Hp.cells;simp only[hu,Aj,if_false]
    rw[e0]at hcp hQ htop hroom;rw[show H.cells l.a vc vo vw vf={ H with BB:=H.BB }.cells l.a vc vo vw vf from rfl,e1]at hbl;simp only[e1]at hQ;refine (Mj hbl hth hcp h.FJ h.Cq.lt h.Cq.Cl.lt ⟨by omega,by omega⟩ ⟨htop,by omega,by omega,by omega⟩ _ hQ).mono ?_
    rintro e w' ⟨rfl,hq⟩;exact⟨by rw[H.Cu hp],hq⟩
   ·have e0:H.base H.use=1+H.size:=by rw[hu];rfl
    have e1:∀ (x:Nat) (v1:Ac),{ H with BB:=x }.cells l.a v1 vo vw vf=#[Ah (some ⟨l.a,0,none⟩),I Z 1,H.size,H.B5,I Z (1+(H.size:Int)),H.size,H.top,vo,v1,I Z 1,.bool H.AL,x,H.scan,H.Ap,vw,vf]:=fun x v1=>by
     unfold Hp.cells;simp only[hu,if_true]
    rw[e0]at hcp hQ htop hroom;have e2:((1+H.size:Nat):Int)=1+(H.size:Int):=by omega
    unfold DG at hcp hQ;rw[e2]at hcp hQ;rw[show H.cells l.a vc vo vw vf={ H with BB:=H.BB }.cells l.a vc vo vw vf from rfl,e1]at hbl;simp only[e1]at hQ;refine (Mk hbl hth hcp h.FJ h.Cq.lt h.Cq.Cl.lt ⟨by omega,by omega⟩ ⟨htop,by omega,by omega,by omega⟩ _ hQ).mono ?_
    rintro e w' ⟨rfl,hq⟩;exact⟨by rw[H.Cu hp],hq⟩
end
end
section
open Go.RowKit Hp
attribute [local go_sem ↓] Go.wp_at_zero Go.wp_at_succ
def N4 {n:Nat}(h:n<=4096):n+1<=maxLen/\(n+1)*8<=140737488355328:=by
 simp only[maxLen];omega
def Rz {n:Nat}(h:n<=1099511627776):n+1<=maxLen/\(n+1)*8<=140737488355328:=by
 simp only[maxLen];omega
section
variable {w : Aa} {o : Own} {l : Bo} {H : Hp} {vc vo vw vf : Ac} {f : Nat -> Nat}
def AN.FX (h:AN w o l H vc vo vw vf f)(hu:H.use=true):An w l.h #[Ah (some ⟨l.a,0,none⟩),I Z 1,H.size,H.B5,I Z (1+(H.size:Int)),H.size,H.top,vo,vc,I Z 1,.bool H.AL,H.BB,H.scan,H.Ap,vw,vf] 185:=by
 have hb:=h.hb;unfold Hp.cells at hb;rw[hu,if_pos rfl]at hb;exact hb
def Hp.GU {H:Hp}(hu:H.use=false):H.base H.use=1:=by rw[hu];rfl
def Hp.GV {H:Hp}(hu:H.use=true):H.base H.use=1+H.size:=by rw[hu];rfl
def MC (h:AN w o l H vc vo vw vf f) (hk:H.ok) (hu:H.use=false) :
  Ab AId 156 #[Ah (some ⟨l.h,0,none⟩)] w fun e w'=>e=O (I Z (H.left:Nat))/\Ae w.1.size w w':=by
 have hb:=h.EP hu;have htop:=kw hk;have hroom:=hk.room;have hs:=hk.sz;unfold Hp.left;rw[Hp.GU hu]at htop hroom ⊢;obtain⟨sz,use,cur,top,mv,old,B5,BB,scan,Ap,AA,final⟩:=H;simp only at hb hs htop hroom ⊢;have HL:=Qa (fun w=>TU (b:=1) (s:=sz) (t:=top) ⟨by omega,by omega,by omega,by omega⟩ w)
 obtain⟨r,hr⟩:∃ r:Nat,r=1+sz-top:=⟨_,rfl⟩;obtain⟨q,hq⟩:∃ q:Nat,q=1+sz-top-BB:=⟨_,rfl⟩;have e1:IntKind.i64.wrap ((r:Int)-(BB:Int))=(q:Int):=by rw[IntWalk.i64_in _ (by omega)];omega
 rw[<-hr]at HL;rw[<-hq];have HL:=Qa (show ∀ w:Aa,Ab AId 219 #[Al #[I Z 1,sz,top]] w fun e w'=>e=O r/\Ae w.1.size w w' from by have:=HL.o;unfold DG at this;exact this)
 clear h hk hu hr hq htop hroom hs;have lA:=fun (e:Later w) (i:Nat)=>Later.cell hb e i
 go_in;have cc:=hb.cell;go_upto_region 3 with fail;clear cc;refine qy (by kernel_rfl) (by kernel_rfl) ?_
 repeat (go_big_quiet_step ((go_at_call 219;exact ku (HL.o _))))
 refine wpQuiet_nil ?_
 rintro _ ⟨⟨wt,hbt⟩,rfl⟩
 go_wp2_with fail;go_ret;exact⟨rfl,hbt⟩
def MD (h:AN w o l H vc vo vw vf f) (hk:H.ok) (hu:H.use=true) :
  Ab AId 156 #[Ah (some ⟨l.h,0,none⟩)] w fun e w'=>e=O (I Z (H.left:Nat))/\Ae w.1.size w w':=by
 have hb:=h.FX hu;have htop:=kw hk;have hroom:=hk.room;have hs:=hk.sz;unfold Hp.left;rw[Hp.GV hu]at htop hroom ⊢;obtain⟨sz,use,cur,top,mv,old,B5,BB,scan,Ap,AA,final⟩:=H;simp only at hb hs htop hroom ⊢;have HL:=Qa (fun w=>TU (b:=1+sz) (s:=sz) (t:=top) ⟨by omega,by omega,by omega,by omega⟩ w)
 obtain⟨r,hr⟩:∃ r:Nat,r=1+sz+sz-top:=⟨_,rfl⟩;obtain⟨q,hq⟩:∃ q:Nat,q=1+sz+sz-top-BB:=⟨_,rfl⟩;have e1:IntKind.i64.wrap ((r:Int)-(BB:Int))=(q:Int):=by rw[IntWalk.i64_in _ (by omega)];omega
 rw[<-hr]at HL;rw[<-hq];have HL:=Qa (show ∀ w:Aa,Ab AId 219 #[Al #[I Z (1+(sz:Int)),sz,top]] w fun e w'=>e=O r/\Ae w.1.size w w' from by have:=HL.o;unfold DG at this;rw[show ((1+sz:Nat):Int)=1+(sz:Int) from by omega]at this;exact this)
 clear h hk hu hr hq htop hroom hs;have lA:=fun (e:Later w) (i:Nat)=>Later.cell hb e i
 go_in;have cc:=hb.cell;go_upto_region 3 with fail;clear cc;refine qy (by kernel_rfl) (by kernel_rfl) ?_
 repeat (go_big_quiet_step ((go_at_call 219;exact ku (HL.o _))))
 refine wpQuiet_nil ?_
 rintro _ ⟨⟨wt,hbt⟩,rfl⟩
 go_wp2_with fail;go_ret;exact⟨rfl,hbt⟩
def TP (h:AN w o l H vc vo vw vf f)(hk:H.ok) :
  Ab AId 156 #[Ah (some ⟨l.h,0,none⟩)] w fun e w'=>e=O (I Z (H.left:Nat))/\Ae w.1.size w w':=by
 cases hu:H.use
 ·exact MC h hk hu
 ·exact MD h hk hu
def AN.DY (h:AN w o l H vc vo vw vf f) (hw0:H.wf) (s:BR) (hs:s.ok) (hroom:H.roomy s=true) {w':Aa} {o':Own} {bX fO eZ:Ac}
  (hb:An w' l.h ((H.lay s).cells l.a bX vo fO eZ) 185) (hw:B6 w' l.a l.wd (2*H.size+1) (ut f H.top s (H.Ap+1)))
  (rc:Row w' o' (l.tc H.use) 3 1 bX (H.cur.length+1) ((H.cur.map fun x=>nv x.1)++[nv H.top])) (ro:Row w' o' (l.XV H.use) 3 1 vo H.old.length (H.old.map fun x=>nv x.1))
  (rw':Row w' o' (l.id,5) 3 1 fO (H.lay s).AA.length ((H.lay s).AA.map nv)) (rf:Row w' o' (l.id,6) 3 1 eZ (H.lay s).final.length ((H.lay s).final.map nv))
  (ht:∀ b,b<w.1.size->o' b=o b):AN w' o' l (H.lay s) bX vo fO eZ (ut f H.top s (H.Ap+1)):=by
 have hk:=hw0.ok;unfold Hp.roomy Hp.left at hroom;simp only[af,decide_eq_true_eq]at hroom;have hrd:=zu (3+s.p+s.d) (by have:=hs.1;have:=hs.2.1;omega)
 have hr:=hk.room;have htop:=kw hk;have hsp:=UO H;refine⟨hb,hw,?_,?_,rw',rf,(ht _ h.hb.lt).trans h.oh,(ht _ h.Cq.Cl.lt).trans h.oa,(ht _ h.Cq.lt).trans h.ow,?_,?_⟩
 ·show Row w' o' (l.tc H.use) _ 1 bX (H.cur++[(H.top,Ob.new s (H.Ap+1))]).length ((H.cur++[(H.top,Ob.new s (H.Ap+1))]).map fun x=>nv x.1)
  simpa using rc
 ·exact ro
 ·intro x hx
  rcases Qs.1 (show x ∈ H.cur++[(H.top,Ob.new s (H.Ap+1))] from hx) with hx|hx
  ·refine (h.FC x hx).of_eq (hk.ck x hx) fun j h1 h2=>dh _ _ _ _ _ (.inl ?_)
   have h3:=zr _ _ _ hk.cl x hx;have h4:=zu _ (Ob.AW (hk.ck x hx)).2;omega
  ·rw[Zb.1 hx];exact BE.new _ _ _ _
 ·intro x hx
  obtain⟨k1,k2,k3⟩:=JR hk hx;have h4:=zu _ (Ob.AW k1).2;have h5:=Ob.AW k1;refine⟨fun hn=>((h.Cs x hx).1 hn).of_eq k1 fun j h1 h2=>dh _ _ _ _ _ (by omega),fun q hq=>?_⟩
  rw[dh _ _ _ _ _ (by omega)]
  exact (h.Cs x hx).2 q hq
def PW (w:Aa)(o:Own)(l:Bo)(H':Hp)(w':Aa):Prop:=∃ vc vo vw vf f o',AN w' o' l H' vc vo vw vf f/\Stp (zd l) o o' w w'
def GK (h0:AN w o l H vc vo vw vf f) (hF:H.wf) (hu:H.use=false) (s:BR) (hs:s.ok) (hr:H.roomy s=true) :
  Ab AId 167 #[Ah (some ⟨l.h,0,none⟩),kg s] w fun e w'=>e=O (Ak #[H.top,I Z 0])/\PW w o l (H.lay s) w':=by
 obtain⟨o1,ho1⟩:∃ o1,o1=ext o w.1.size (l.id+1,0):=⟨_,rfl⟩;have h:=h0.retag (o':=o1) fun b hb=>by rw[ho1];exact qj hb
 have hS0:Stp (zd l) o o1 w w:=by rw[ho1];exact (Stp.refl _ o w).ext _ _ (Qk _)
 have hbx:o1 w.1.size=(l.id+1,0):=by rw[ho1];exact qp (Qk _)
 clear ho1 h0;have hk:=hF.ok;have hcl:H.cur.length<16384:=by
  have h1:=mg _ _ _ hk.cl hk.ck;have h2:=hk.room;have h3:=hk.sz;omega
 have wR:=Qa hF;have hHr:=Qa hr;have hHz:=Qa hs;unfold Hp.roomy Hp.left at hr;simp only[af,decide_eq_true_eq]at hr;obtain⟨hr,eQ⟩:=hr;have hlf:(H.left:Nat)=H.base H.use+H.size-H.top-H.BB:=rfl;have wS:=Qa eQ;clear hF;have hb:=h.EP hu;have htop:=kw hk;have hroom:=hk.room;rw[Hp.GU hu]at htop hroom hr hlf;have hrd:=zu (3+s.p+s.d) (by obtain⟨h1,h2,_⟩:=hs;omega)
 have hsz:=hk.sz;have hfit:H.top+BJ (3+s.p+s.d)+H.BB<=1+H.size:=by omega
 have HR:=Qa (fun w' (hw:Ae w.1.size w w')=>TP (h.below hw) hk)
 have HS:=Qa (fun w=>xx s hs w)
 have HN:=Qa (fun w=>me (3+s.p+s.d) (by omega) (by obtain⟨h1,h2,_⟩:=hs;omega) _ rfl w)
 have HT:=(fun w=>Tq (b:=1) (s:=H.size) (t:=H.top) ⟨by omega,by omega,by omega,by omega⟩ (3+s.p+s.d) (by omega) (by obtain⟨h1,h2,_⟩:=hs;omega) (by omega) _ rfl w)
 skip;replace HT:=Qa HT;have ou:¬((BJ (3+s.p+s.d):Nat):Int) > ((H.left:Nat):Int):=by omega
 have hse:(H.Ap:Int)<1099511627776:=by omega
 have hHI:=Qa h;have hHK:=Qa hk;generalize hzz:BJ (3+s.p+s.d)=rn at *;generalize H.left=EC at HR ou;clear h hk hr eQ hlf;have xQ:(0:Int)<=(H.Ap:Int):=by omega
 have hss:((H.Ap+1:Nat):Int)=(H.Ap:Int)+1:=by omega
 generalize hE1:(H.Ap:Int)=dH at hb hse xQ hss;generalize hE2:H.size=sz at hb hsz HT htop hroom hfit;generalize rZ:H.top=tp at hb HT htop hroom hfit ⊢;generalize yY:H.B5=eT at hb;generalize hE5:H.BB=dK at hb hroom hfit;generalize hE6:H.scan=CE at hb;generalize hE7:H.AL=gV at hb;go_in;have jS:=An.new w #[s.p,s.d,.bool s.AA,.bool s.final] 93;have cS:=jS.cell;go_wp2_with fail;refine (HS.o _).mono ?_
 rintro e w1 ⟨rfl,hb1⟩
 have hw1:=qd (qa (qc w) _) hb1;have nK:=jS.below hb1 jS.lt;clear hb1 cS;go_wp2_with fail;refine (HN.o _).mono ?_
 rintro e w2 ⟨rfl,hb2⟩
 have hw2:=qd hw1 hb2;have dJ:=nK.below hb2 nK.lt;go_wp2_with fail;refine (HR.o _ hw2).mono ?_
 rintro e w3 ⟨rfl,hb3⟩
 have hw3:=qd hw2 hb3;have ik:=dJ.below hb3 dJ.lt;have pW:=hb.below hw3 hb.lt;have cH:=pW.cell;go_upto_region 7 with fail;have sH:=pW.lt;clear dJ nK hb3 hb2 HR HS HN;go_cut [7,10,11] (fun t7 t10 t11 wx=>∃ B,t10=Ah (some ⟨B,0,none⟩)/\t11=I Z tp/\t7=.bool true/\An wx B #[I Z 1,sz,I Z ((tp+rn:Nat):Int)] 181/\Ae w3.1.size w3 wx/\w3.1.size<=B)
 case first =>
  go_region_with (first|(go_at_call 228;refine (HT.o _).mono ?_;rintro e w4 ⟨rfl,hb4⟩;try (have dP:An w4 w3.1.size #[I Z 0,I Z 0,I Z 0] 181:=An.below (qi (An.new w3 _ _)) hb4 (by simp);have yR:=dP.cell;have zB4:=dP.free;have sB4:=dP.lt))|fail)
  all_goals
   go_wp2_with fail;go_meet;first
    | exact⟨_,rfl,rfl,rfl,An.Ax _ _ _ _ _ rfl (by simp),qa (qd (qe (qc w3)) hb4) _,hb4.size⟩
    | exact⟨w3.1.size,rfl,rfl,rfl,by simpa using ((dP.set 0 _).set 1 _).set 2 _,qm (qm (qm (qd (qe (qa (qc w3) _)) hb4) (Qk _) _) (Qk _) _) (Qk _) _,Qk _⟩
 case rest =>
  clear cH sH HT;obtain⟨B,rfl,rfl,rfl,jB,hbw,rW⟩:=hcut;have Alx:=hw3.size;obtain⟨tr,htr⟩:=Ja0 (tp+rn);rw[<-htr]at jB;replace htr:=Qa htr;have iR:=pW.below hbw pW.lt;have fV:=ik.below hbw ik.lt;have hwc:=qd hw3 hbw;have HM:=Qa (VD (hHI.o.Cq.below (qe hwc)) s hs (at':=tp) (by have:=zu (3+s.p+s.d) (by obtain⟨h1,h2,_⟩:=hs;omega);rw[hE2];omega) (H.Ap+1) (by have:=wS.o;omega) _ _ rfl hss.symm)
  clear pW ik hbw hw3;have cH:=iR.cell;have cS:=fV.cell;have sB:=jB.lt;go_upto_region 10 with fail;go_still_tail 11,(by kernel_rfl)
  change wpList _ _ _ _ _ wc.drew;go_wp2_with fail;refine HM.o.mono ?_;rintro e w5 ⟨rfl,hT⟩;have nwd:l.h≠l.wd:=fun e=>by have h1:=hHI.o.oh;rw[e,hHI.o.ow]at h1;cases h1
  have lwd:=hHI.o.Cq.lt;have tZ:=(qi iR).wr hT.2 nwd;have oH:=(qi fV).wr hT.2 (by omega)
  have xY:=(qi jB).wr hT.2 (by omega)
  have S5:Stp (fun t=>t=(l.id,2)) o1 o1 w w5:=(Stp.of_below (qe hwc)).trans (Stp.Cg hT.2 hHI.o.ow);clear iR fV jB HM cH cS sB;have cH:=tZ.cell;have zH:=tZ.free;have cS:=oH.cell;have sB:=xY.lt;have sS:=oH.lt;have cB:=xY.cell;have neB:B≠l.h:=by have:=hHI.o.hb.lt;omega
  have neS:w.1.size≠l.h:=by have:=hHI.o.hb.lt;omega
  go_wp2_with fail;obtain⟨w6,kQ⟩:=Ja0 (w5.setCell ⟨l.h,13,none⟩ (I Z (dH+1)));rw[<-kQ];have S6:Stp (fun t=>t=(l.id,2)\/t=(l.id,0)) o1 o1 w w6:=by
   rw[kQ];exact Stp.setCell (T:=fun t=>t=(l.id,2)\/t=(l.id,0)) (S5.mono fun _ e=>Or.inl e) (Or.inr hHI.o.oh) _
  have nJ:An w6 l.h #[Ah (some ⟨l.a,0,none⟩),I Z 1,sz,tp,I Z (1+(sz:Int)),sz,eT,vc,vo,I Z 0,.bool gV,dK,I Z CE,I Z (dH+1),vw,vf] 185:=by rw[kQ];exact tZ.set 13 _
  have yB:An w6 w.1.size #[s.p,s.d,.bool s.AA,.bool s.final] 93:=by rw[kQ];exact oH.Ao neS _
  have R6:Row w6 o1 (l.id,3) 3 1 vc H.cur.length (H.cur.map fun x=>nv x.1):=by
   have:=hHI.o.rc;rw[hu]at this;exact this.Ar S6 (by simp)
  refine (XC nJ R6 hcl hHI.o.oh (by simp) tp tr).mono ?_
  rintro e w7 ⟨rfl,bX,o2,iQ,R7,S7⟩;have fU:=yB.Ar S7 (by rw[hbx];simp)
  have wL:=(S6.mono (U:=zd l) (by rintro _ (rfl|rfl)<;>simp[zd])).trans (S7.mono (by rintro _ (rfl|rfl)<;>simp[zd]))
  have W7:B6 w7 l.a l.wd (2*H.size+1) (ut f tp s (H.Ap+1)):=by
   have h6:B6 w6 l.a l.wd (2*H.size+1) (ut f tp s (H.Ap+1)):=by rw[kQ];exact (hE2▸hT.1:B6 w5 l.a l.wd (2*H.size+1) (ut f tp s (H.Ap+1))).Ar (Stp.setCell (T:=fun t=>t=(l.id,0)) (Stp.refl _ o1 w5) hHI.o.oh _) (by rw[hHI.o.oa];simp) (by rw[hHI.o.ow];simp)
   exact h6.Ar S7 (by rw[hHI.o.oa];simp) (by rw[hHI.o.ow];simp)
  have RO7:Row w7 o2 (l.id,4) 3 1 vo H.old.length (H.old.map fun x=>nv x.1):=by
   have:=hHI.o.ro;rw[hu]at this;exact (this.Ar S6 (by simp)).Ar S7 (by simp)
  have oV:=(hHI.o.rw.Ar S6 (by simp)).Ar S7 (by simp)
  have oU:=(hHI.o.rf.Ar S6 (by simp)).Ar S7 (by simp)
  have xH:w.1.size<w6.1.size:=yB.lt;have S7t:=S7.tags;clear kQ nJ yB R6 S6 S5 tZ oH xY cH zH cS sB sS cB S7 hT neB nwd;have cH:=iQ.cell;have zH:=iQ.free;have sH:=iQ.lt;have cS:=fU.cell;have sS:=fU.lt;have gN:o2 w.1.size=(l.id+1,0):=by rw[S7t _ xH];exact hbx
  have T7:∀ b,b<w.1.size->o2 b=o1 b:=fun b hb=>wL.tags b hb;obtain⟨iI,hi,hsI,cZ,bZ⟩:=zh;have hu64:=underlying25;have hwl:H.AA.length+1<=maxLen/\(H.AA.length+1)*8<=140737488355328:=Rz (Qo wR.o.wl (by have:=wS.o;omega))
  have hfl:H.final.length+1<=maxLen/\(H.final.length+1)*8<=140737488355328:=Rz (Qo wR.o.fl (by have:=wS.o;omega))
  have oQ:=Qa hs.2.2;have HFin:=Qa (fun (w9:Aa) (o9:Own) (fO eZ:Ac) (hb:An w9 l.h ((H.lay s).cells l.a bX vo fO eZ) 185) (rw':Row w9 o9 (l.id,5) 3 1 fO (H.lay s).AA.length ((H.lay s).AA.map nv)) (rf:Row w9 o9 (l.id,6) 3 1 eZ (H.lay s).final.length ((H.lay s).final.map nv))
    (S:Stp (fun t=>t=(l.id,0)\/t=(l.id,5)\/t=(l.id,6)) o2 o9 w7 w9) =>
   show PW w o l (H.lay s) w9 from
    ⟨bX,vo,fO,eZ,_,o9,hHI.o.DY wR.o s hHz.o hHr.o hb (by
      have:=W7.Ar S (by rw[T7 _ hHI.o.Cq.Cl.lt,hHI.o.oa];simp) (by rw[T7 _ hHI.o.Cq.lt,hHI.o.ow];simp)
      rw[rZ];exact this) (by have:=R7.Ar S (by simp);rw[rZ,hu];exact this) (by rw[hu];exact RO7.Ar S (by simp)) rw' rf
      (fun b hb=>(S.tags b (Qn hb wL.size)).trans (T7 b hb)),(hS0.trans wL).trans (S.mono (by rintro _ (rfl|rfl|rfl)<;>simp[zd]))⟩)
  have dL:=Qa (show ∀ fO eZ,(H.lay s).cells l.a bX vo fO eZ=#[Ah (some ⟨l.a,0,none⟩),I Z 1,sz,tr,I Z (1+(sz:Int)),sz,eT,bX,vo,I Z 0,.bool gV,dK,I Z CE,I Z (dH+1),fO,eZ] from fun fO eZ=>by
   unfold Hp.cells Hp.lay;simp only[hu];rw[if_neg (by simp),hE2,rZ,yY,hE5,hE6,hE7,htr.o,hss,hzz])
  clear W7 R7 RO7 hs;have nO:o2 l.h=(l.id,0):=(T7 _ hHI.o.hb.lt).trans hHI.o.oh;have wF:s.AA=false->(H.lay s).AA=H.AA:=fun e=>by unfold Hp.lay;simp[e]
  have wT:s.AA=true->(H.lay s).AA=H.AA++[H.top]:=fun e=>by unfold Hp.lay;simp[e]
  have fF:s.final=false->(H.lay s).final=H.final:=fun e=>by unfold Hp.lay;simp[e]
  have fT:s.final=true->(H.lay s).final=H.final++[H.top]:=fun e=>by unfold Hp.lay;simp[e]
  rw[rZ]at wT fT;replace hwl:=Qa hwl;replace hfl:=Qa hfl;replace oV:=Qa oV;replace oU:=Qa oU;replace gN:=Qa gN;replace nO:=Qa nO
  cases hwk:s.AA
  ·rw[hwk]at fU
   cases hfn:s.final
   ·rw[hfn]at fU
    have cS:=fU.cell;go_wp2_with fail;go_ret2;exact⟨rfl,HFin.o w7 o2 vw vf (by rw[dL.o];exact iQ) (by rw[wF hwk];exact oV.o) (by rw[fF hfn];exact oU.o) (Stp.refl _ _ _)⟩
   ·rw[hfn]at fU
    have cS:=fU.cell;go_wp2_with (first|(at_builtin;refine qf _ rfl _ _ _ rfl 3 iI _ 1 8 hu64 hi bZ hsI cZ rfl (by decide) o2 (l.id,6) _ _ _ rfl (Row.below oU.o (qa (qc w7) _)) ⟨w7.1.size,0,none⟩ 1 1 [I Z tp] rfl rfl (qv (An.new w7 _ _)) jd hfl.o.1 hfl.o.2 ?_;intro v' w8 hown hst;obtain⟨pa,cp,rfl⟩:=hown.A5;have gU:=(iQ.alloc (AIe #[tp] 3)).Ar hst (by rw[nO.o];simp);have pY:=(fU.alloc (AIe #[tp] 3)).Ar hst (by rw[gN.o];simp);have cH8:=gU.cell;have zH8:=gU.free;have sH8:=gU.lt;have cS8:=pY.cell;have sS8:=pY.lt)|fail)
    go_ret2;have k8:=Stp.setCell (T:=fun t=>t=(l.id,0)) (Stp.refl _ (ext o2 (w7.alloc (AIe #[tp] 3)).1.size (l.id,6)) w8) (a:=⟨l.h,15,none⟩) (by show ext o2 _ _ l.h=_;rw[qj (iQ.alloc (AIe #[tp] 3)).lt];exact nO.o) (.slice pa (H.final.length+1) cp)
    have s8:Stp (fun t=>t=(l.id,0)\/t=(l.id,5)\/t=(l.id,6)) o2 _ w7 _:=((Stp.of_below (T:=fun t=>t=(l.id,6)) (qa (qc w7) (AIe #[tp] 3))).trans hst |>.mono (by rintro _ rfl;simp)).trans (k8.mono (by rintro _ rfl;simp))
    refine⟨rfl,HFin.o _ _ _ _ (by rw[dL.o];exact gU.set 15 _) ?_ ?_ s8⟩
    ·rw[wF hwk];exact ((Row.below oV.o (qa (qc w7) _)).Ar hst (by simp)).Ar k8 (by simp)
    ·rw[fT hfn];simpa [nv] using hown.Ar k8 (by simp)
  ·rw[hwk,(oQ.o hwk).2.2]at fU
   have cS:=fU.cell;go_wp2_with (first|(at_builtin;refine qf _ rfl _ _ _ rfl 3 iI _ 1 8 hu64 hi bZ hsI cZ rfl (by decide) o2 (l.id,5) _ _ _ rfl (Row.below oV.o (qa (qc w7) _)) ⟨w7.1.size,0,none⟩ 1 1 [I Z tp] rfl rfl (qv (An.new w7 _ _)) jd hwl.o.1 hwl.o.2 ?_;intro v' w8 hown hst;obtain⟨pa,cp,rfl⟩:=hown.A5;have gU:=(iQ.alloc (AIe #[tp] 3)).Ar hst (by rw[nO.o];simp);have pY:=(fU.alloc (AIe #[tp] 3)).Ar hst (by rw[gN.o];simp);have cH8:=gU.cell;have zH8:=gU.free;have sH8:=gU.lt;have cS8:=pY.cell;have sS8:=pY.lt)|fail)
   go_ret2;have k8:=Stp.setCell (T:=fun t=>t=(l.id,0)) (Stp.refl _ (ext o2 (w7.alloc (AIe #[tp] 3)).1.size (l.id,5)) w8) (a:=⟨l.h,14,none⟩) (by show ext o2 _ _ l.h=_;rw[qj (iQ.alloc (AIe #[tp] 3)).lt];exact nO.o) (.slice pa (H.AA.length+1) cp)
   have s8:Stp (fun t=>t=(l.id,0)\/t=(l.id,5)\/t=(l.id,6)) o2 _ w7 _:=((Stp.of_below (T:=fun t=>t=(l.id,5)) (qa (qc w7) (AIe #[tp] 3))).trans hst |>.mono (by rintro _ rfl;simp)).trans (k8.mono (by rintro _ rfl;simp))
   refine⟨rfl,HFin.o _ _ _ _ (by rw[dL.o];exact gU.set 14 _) ?_ ?_ s8⟩
   ·rw[wT hwk];simpa [nv] using hown.Ar k8 (by simp)
   ·rw[fF (oQ.o hwk).2.2];exact ((Row.below oU.o (qa (qc w7) _)).Ar hst (by simp)).Ar k8 (by simp)
def GL (h0:AN w o l H vc vo vw vf f) (hF:H.wf) (hu:H.use=true) (s:BR) (hs:s.ok) (hr:H.roomy s=true) :
  Ab AId 167 #[Ah (some ⟨l.h,0,none⟩),kg s] w fun e w'=>e=O (Ak #[H.top,I Z 0])/\PW w o l (H.lay s) w':=by
 obtain⟨o1,ho1⟩:∃ o1,o1=ext o w.1.size (l.id+1,0):=⟨_,rfl⟩;have h:=h0.retag (o':=o1) fun b hb=>by rw[ho1];exact qj hb
 have hS0:Stp (zd l) o o1 w w:=by rw[ho1];exact (Stp.refl _ o w).ext _ _ (Qk _)
 have hbx:o1 w.1.size=(l.id+1,0):=by rw[ho1];exact qp (Qk _)
 clear ho1 h0;have hk:=hF.ok;have hcl:H.cur.length<16384:=by
  have h1:=mg _ _ _ hk.cl hk.ck;have h2:=hk.room;have h3:=hk.sz;omega
 have wR:=Qa hF;have hHr:=Qa hr;have hHz:=Qa hs;unfold Hp.roomy Hp.left at hr;simp only[af,decide_eq_true_eq]at hr;obtain⟨hr,eQ⟩:=hr;have hlf:(H.left:Nat)=H.base H.use+H.size-H.top-H.BB:=rfl;have wS:=Qa eQ;clear hF;have hb:=h.FX hu;have htop:=kw hk;have hroom:=hk.room;rw[Hp.GV hu]at htop hroom hr hlf;have hrd:=zu (3+s.p+s.d) (by obtain⟨h1,h2,_⟩:=hs;omega)
 have hsz:=hk.sz;have hfit:H.top+BJ (3+s.p+s.d)+H.BB<=1+H.size+H.size:=by omega
 have HR:=Qa (fun w' (hw:Ae w.1.size w w')=>TP (h.below hw) hk)
 have HS:=Qa (fun w=>xx s hs w)
 have HN:=Qa (fun w=>me (3+s.p+s.d) (by omega) (by obtain⟨h1,h2,_⟩:=hs;omega) _ rfl w)
 have HT:=(fun w=>Tq (b:=1+H.size) (s:=H.size) (t:=H.top) ⟨by omega,by omega,by omega,by omega⟩ (3+s.p+s.d) (by omega) (by obtain⟨h1,h2,_⟩:=hs;omega) (by omega) _ rfl w)
 unfold DG at HT;rw[show ((1+H.size:Nat):Int)=1+(H.size:Int) from by omega]at HT
 replace HT:=Qa HT;have ou:¬((BJ (3+s.p+s.d):Nat):Int) > ((H.left:Nat):Int):=by omega
 have hse:(H.Ap:Int)<1099511627776:=by omega
 have hHI:=Qa h;have hHK:=Qa hk;generalize hzz:BJ (3+s.p+s.d)=rn at *;generalize H.left=EC at HR ou;clear h hk hr eQ hlf;have xQ:(0:Int)<=(H.Ap:Int):=by omega
 have hss:((H.Ap+1:Nat):Int)=(H.Ap:Int)+1:=by omega
 generalize hE1:(H.Ap:Int)=dH at hb hse xQ hss;generalize hE2:H.size=sz at hb hsz HT htop hroom hfit;generalize rZ:H.top=tp at hb HT htop hroom hfit ⊢;generalize yY:H.B5=eT at hb;generalize hE5:H.BB=dK at hb hroom hfit;generalize hE6:H.scan=CE at hb;generalize hE7:H.AL=gV at hb;go_in;have jS:=An.new w #[s.p,s.d,.bool s.AA,.bool s.final] 93;have cS:=jS.cell;go_wp2_with fail;refine (HS.o _).mono ?_
 rintro e w1 ⟨rfl,hb1⟩
 have hw1:=qd (qa (qc w) _) hb1;have nK:=jS.below hb1 jS.lt;clear hb1 cS;go_wp2_with fail;refine (HN.o _).mono ?_
 rintro e w2 ⟨rfl,hb2⟩
 have hw2:=qd hw1 hb2;have dJ:=nK.below hb2 nK.lt;go_wp2_with fail;refine (HR.o _ hw2).mono ?_
 rintro e w3 ⟨rfl,hb3⟩
 have hw3:=qd hw2 hb3;have ik:=dJ.below hb3 dJ.lt;have pW:=hb.below hw3 hb.lt;have cH:=pW.cell;go_upto_region 7 with fail;have sH:=pW.lt;clear dJ nK hb3 hb2 HR HS HN;go_cut [7,10,11] (fun t7 t10 t11 wx=>∃ B,t10=Ah (some ⟨B,0,none⟩)/\t11=I Z tp/\t7=.bool true/\An wx B #[I Z (1+(sz:Int)),sz,I Z ((tp+rn:Nat):Int)] 181/\Ae w3.1.size w3 wx/\w3.1.size<=B)
 case first =>
  go_region_with (first|(go_at_call 228;refine (HT.o _).mono ?_;rintro e w4 ⟨rfl,hb4⟩;try (have dP:An w4 w3.1.size #[I Z 0,I Z 0,I Z 0] 181:=An.below (qi (An.new w3 _ _)) hb4 (by simp);have yR:=dP.cell;have zB4:=dP.free;have sB4:=dP.lt))|fail)
  all_goals
   go_wp2_with fail;go_meet;first
    | exact⟨_,rfl,rfl,rfl,An.Ax _ _ _ _ _ rfl (by simp),qa (qd (qe (qc w3)) hb4) _,hb4.size⟩
    | exact⟨w3.1.size,rfl,rfl,rfl,by simpa using ((dP.set 0 _).set 1 _).set 2 _,qm (qm (qm (qd (qe (qa (qc w3) _)) hb4) (Qk _) _) (Qk _) _) (Qk _) _,Qk _⟩
 case rest =>
  clear cH sH HT;obtain⟨B,rfl,rfl,rfl,jB,hbw,rW⟩:=hcut;have Alx:=hw3.size;obtain⟨tr,htr⟩:=Ja0 (tp+rn);rw[<-htr]at jB;replace htr:=Qa htr;have iR:=pW.below hbw pW.lt;have fV:=ik.below hbw ik.lt;have hwc:=qd hw3 hbw;have HM:=Qa (VD (hHI.o.Cq.below (qe hwc)) s hs (at':=tp) (by have:=zu (3+s.p+s.d) (by obtain⟨h1,h2,_⟩:=hs;omega);rw[hE2];omega) (H.Ap+1) (by have:=wS.o;omega) _ _ rfl hss.symm)
  clear pW ik hbw hw3;have cH:=iR.cell;have cS:=fV.cell;have sB:=jB.lt;go_upto_region 10 with fail;go_still_tail 11,(by kernel_rfl)
  change wpList _ _ _ _ _ wc.drew;go_wp2_with fail;refine HM.o.mono ?_;rintro e w5 ⟨rfl,hT⟩;have nwd:l.h≠l.wd:=fun e=>by have h1:=hHI.o.oh;rw[e,hHI.o.ow]at h1;cases h1
  have lwd:=hHI.o.Cq.lt;have tZ:=(qi iR).wr hT.2 nwd;have oH:=(qi fV).wr hT.2 (by omega)
  have xY:=(qi jB).wr hT.2 (by omega)
  have S5:Stp (fun t=>t=(l.id,2)) o1 o1 w w5:=(Stp.of_below (qe hwc)).trans (Stp.Cg hT.2 hHI.o.ow);clear iR fV jB HM cH cS sB;have cH:=tZ.cell;have zH:=tZ.free;have cS:=oH.cell;have sB:=xY.lt;have sS:=oH.lt;have cB:=xY.cell;have neB:B≠l.h:=by have:=hHI.o.hb.lt;omega
  have neS:w.1.size≠l.h:=by have:=hHI.o.hb.lt;omega
  go_wp2_with fail;obtain⟨w6,kQ⟩:=Ja0 (w5.setCell ⟨l.h,13,none⟩ (I Z (dH+1)));rw[<-kQ];have S6:Stp (fun t=>t=(l.id,2)\/t=(l.id,0)) o1 o1 w w6:=by
   rw[kQ];exact Stp.setCell (T:=fun t=>t=(l.id,2)\/t=(l.id,0)) (S5.mono fun _ e=>Or.inl e) (Or.inr hHI.o.oh) _
  have nJ:An w6 l.h #[Ah (some ⟨l.a,0,none⟩),I Z 1,sz,eT,I Z (1+(sz:Int)),sz,tp,vo,vc,I Z 1,.bool gV,dK,I Z CE,I Z (dH+1),vw,vf] 185:=by rw[kQ];exact tZ.set 13 _
  have yB:An w6 w.1.size #[s.p,s.d,.bool s.AA,.bool s.final] 93:=by rw[kQ];exact oH.Ao neS _
  have R6:Row w6 o1 (l.id,4) 3 1 vc H.cur.length (H.cur.map fun x=>nv x.1):=by
   have:=hHI.o.rc;rw[hu]at this;exact this.Ar S6 (by simp)
  refine (XA nJ R6 hcl hHI.o.oh (by simp) tp tr).mono ?_
  rintro e w7 ⟨rfl,bX,o2,iQ,R7,S7⟩;have fU:=yB.Ar S7 (by rw[hbx];simp)
  have wL:=(S6.mono (U:=zd l) (by rintro _ (rfl|rfl)<;>simp[zd])).trans (S7.mono (by rintro _ (rfl|rfl)<;>simp[zd]))
  have W7:B6 w7 l.a l.wd (2*H.size+1) (ut f tp s (H.Ap+1)):=by
   have h6:B6 w6 l.a l.wd (2*H.size+1) (ut f tp s (H.Ap+1)):=by rw[kQ];exact (hE2▸hT.1:B6 w5 l.a l.wd (2*H.size+1) (ut f tp s (H.Ap+1))).Ar (Stp.setCell (T:=fun t=>t=(l.id,0)) (Stp.refl _ o1 w5) hHI.o.oh _) (by rw[hHI.o.oa];simp) (by rw[hHI.o.ow];simp)
   exact h6.Ar S7 (by rw[hHI.o.oa];simp) (by rw[hHI.o.ow];simp)
  have RO7:Row w7 o2 (l.id,3) 3 1 vo H.old.length (H.old.map fun x=>nv x.1):=by
   have:=hHI.o.ro;rw[hu]at this;exact (this.Ar S6 (by simp)).Ar S7 (by simp)
  have oV:=(hHI.o.rw.Ar S6 (by simp)).Ar S7 (by simp)
  have oU:=(hHI.o.rf.Ar S6 (by simp)).Ar S7 (by simp)
  have xH:w.1.size<w6.1.size:=yB.lt;have S7t:=S7.tags;clear kQ nJ yB R6 S6 S5 tZ oH xY cH zH cS sB sS cB S7 hT neB nwd;have cH:=iQ.cell;have zH:=iQ.free;have sH:=iQ.lt;have cS:=fU.cell;have sS:=fU.lt;have gN:o2 w.1.size=(l.id+1,0):=by rw[S7t _ xH];exact hbx
  have T7:∀ b,b<w.1.size->o2 b=o1 b:=fun b hb=>wL.tags b hb;obtain⟨iI,hi,hsI,cZ,bZ⟩:=zh;have hu64:=underlying25;have hwl:H.AA.length+1<=maxLen/\(H.AA.length+1)*8<=140737488355328:=Rz (Qo wR.o.wl (by have:=wS.o;omega))
  have hfl:H.final.length+1<=maxLen/\(H.final.length+1)*8<=140737488355328:=Rz (Qo wR.o.fl (by have:=wS.o;omega))
  have oQ:=Qa hs.2.2;have HFin:=Qa (fun (w9:Aa) (o9:Own) (fO eZ:Ac) (hb:An w9 l.h ((H.lay s).cells l.a bX vo fO eZ) 185) (rw':Row w9 o9 (l.id,5) 3 1 fO (H.lay s).AA.length ((H.lay s).AA.map nv)) (rf:Row w9 o9 (l.id,6) 3 1 eZ (H.lay s).final.length ((H.lay s).final.map nv))
    (S:Stp (fun t=>t=(l.id,0)\/t=(l.id,5)\/t=(l.id,6)) o2 o9 w7 w9) =>
   show PW w o l (H.lay s) w9 from
    ⟨bX,vo,fO,eZ,_,o9,hHI.o.DY wR.o s hHz.o hHr.o hb (by
      have:=W7.Ar S (by rw[T7 _ hHI.o.Cq.Cl.lt,hHI.o.oa];simp) (by rw[T7 _ hHI.o.Cq.lt,hHI.o.ow];simp)
      rw[rZ];exact this) (by have:=R7.Ar S (by simp);rw[rZ,hu];exact this) (by rw[hu];exact RO7.Ar S (by simp)) rw' rf
      (fun b hb=>(S.tags b (Qn hb wL.size)).trans (T7 b hb)),(hS0.trans wL).trans (S.mono (by rintro _ (rfl|rfl|rfl)<;>simp[zd]))⟩)
  have dL:=Qa (show ∀ fO eZ,(H.lay s).cells l.a bX vo fO eZ=#[Ah (some ⟨l.a,0,none⟩),I Z 1,sz,eT,I Z (1+(sz:Int)),sz,tr,vo,bX,I Z 1,.bool gV,dK,I Z CE,I Z (dH+1),fO,eZ] from fun fO eZ=>by
   unfold Hp.cells Hp.lay;simp only[hu];rw[if_pos trivial,hE2,rZ,yY,hE5,hE6,hE7,htr.o,hss,hzz])
  clear W7 R7 RO7 hs;have nO:o2 l.h=(l.id,0):=(T7 _ hHI.o.hb.lt).trans hHI.o.oh;have wF:s.AA=false->(H.lay s).AA=H.AA:=fun e=>by unfold Hp.lay;simp[e]
  have wT:s.AA=true->(H.lay s).AA=H.AA++[H.top]:=fun e=>by unfold Hp.lay;simp[e]
  have fF:s.final=false->(H.lay s).final=H.final:=fun e=>by unfold Hp.lay;simp[e]
  have fT:s.final=true->(H.lay s).final=H.final++[H.top]:=fun e=>by unfold Hp.lay;simp[e]
  rw[rZ]at wT fT;replace hwl:=Qa hwl;replace hfl:=Qa hfl;replace oV:=Qa oV;replace oU:=Qa oU;replace gN:=Qa gN;replace nO:=Qa nO
  cases hwk:s.AA
  ·rw[hwk]at fU
   cases hfn:s.final
   ·rw[hfn]at fU
    have cS:=fU.cell;go_wp2_with fail;go_ret2;exact⟨rfl,HFin.o w7 o2 vw vf (by rw[dL.o];exact iQ) (by rw[wF hwk];exact oV.o) (by rw[fF hfn];exact oU.o) (Stp.refl _ _ _)⟩
   ·rw[hfn]at fU
    have cS:=fU.cell;go_wp2_with (first|(at_builtin;refine qf _ rfl _ _ _ rfl 3 iI _ 1 8 hu64 hi bZ hsI cZ rfl (by decide) o2 (l.id,6) _ _ _ rfl (Row.below oU.o (qa (qc w7) _)) ⟨w7.1.size,0,none⟩ 1 1 [I Z tp] rfl rfl (qv (An.new w7 _ _)) jd hfl.o.1 hfl.o.2 ?_;intro v' w8 hown hst;obtain⟨pa,cp,rfl⟩:=hown.A5;have gU:=(iQ.alloc (AIe #[tp] 3)).Ar hst (by rw[nO.o];simp);have pY:=(fU.alloc (AIe #[tp] 3)).Ar hst (by rw[gN.o];simp);have cH8:=gU.cell;have zH8:=gU.free;have sH8:=gU.lt;have cS8:=pY.cell;have sS8:=pY.lt)|fail)
    go_ret2;have k8:=Stp.setCell (T:=fun t=>t=(l.id,0)) (Stp.refl _ (ext o2 (w7.alloc (AIe #[tp] 3)).1.size (l.id,6)) w8) (a:=⟨l.h,15,none⟩) (by show ext o2 _ _ l.h=_;rw[qj (iQ.alloc (AIe #[tp] 3)).lt];exact nO.o) (.slice pa (H.final.length+1) cp)
    have s8:Stp (fun t=>t=(l.id,0)\/t=(l.id,5)\/t=(l.id,6)) o2 _ w7 _:=((Stp.of_below (T:=fun t=>t=(l.id,6)) (qa (qc w7) (AIe #[tp] 3))).trans hst |>.mono (by rintro _ rfl;simp)).trans (k8.mono (by rintro _ rfl;simp))
    refine⟨rfl,HFin.o _ _ _ _ (by rw[dL.o];exact gU.set 15 _) ?_ ?_ s8⟩
    ·rw[wF hwk];exact ((Row.below oV.o (qa (qc w7) _)).Ar hst (by simp)).Ar k8 (by simp)
    ·rw[fT hfn];simpa [nv] using hown.Ar k8 (by simp)
  ·rw[hwk,(oQ.o hwk).2.2]at fU
   have cS:=fU.cell;go_wp2_with (first|(at_builtin;refine qf _ rfl _ _ _ rfl 3 iI _ 1 8 hu64 hi bZ hsI cZ rfl (by decide) o2 (l.id,5) _ _ _ rfl (Row.below oV.o (qa (qc w7) _)) ⟨w7.1.size,0,none⟩ 1 1 [I Z tp] rfl rfl (qv (An.new w7 _ _)) jd hwl.o.1 hwl.o.2 ?_;intro v' w8 hown hst;obtain⟨pa,cp,rfl⟩:=hown.A5;have gU:=(iQ.alloc (AIe #[tp] 3)).Ar hst (by rw[nO.o];simp);have pY:=(fU.alloc (AIe #[tp] 3)).Ar hst (by rw[gN.o];simp);have cH8:=gU.cell;have zH8:=gU.free;have sH8:=gU.lt;have cS8:=pY.cell;have sS8:=pY.lt)|fail)
   go_ret2;have k8:=Stp.setCell (T:=fun t=>t=(l.id,0)) (Stp.refl _ (ext o2 (w7.alloc (AIe #[tp] 3)).1.size (l.id,5)) w8) (a:=⟨l.h,14,none⟩) (by show ext o2 _ _ l.h=_;rw[qj (iQ.alloc (AIe #[tp] 3)).lt];exact nO.o) (.slice pa (H.AA.length+1) cp)
   have s8:Stp (fun t=>t=(l.id,0)\/t=(l.id,5)\/t=(l.id,6)) o2 _ w7 _:=((Stp.of_below (T:=fun t=>t=(l.id,5)) (qa (qc w7) (AIe #[tp] 3))).trans hst |>.mono (by rintro _ rfl;simp)).trans (k8.mono (by rintro _ rfl;simp))
   refine⟨rfl,HFin.o _ _ _ _ (by rw[dL.o];exact gU.set 14 _) ?_ ?_ s8⟩
   ·rw[wT hwk];simpa [nv] using hown.Ar k8 (by simp)
   ·rw[fF (oQ.o hwk).2.2];exact ((Row.below oU.o (qa (qc w7) _)).Ar hst (by simp)).Ar k8 (by simp)
def AN.FI (h:AN w o l H vc vo vw vf f){w':Aa}(hb:Ae w.1.size w w'):PW w o l H w':=⟨vc,vo,vw,vf,f,o,h.below hb,Stp.of_below hb⟩
def qk0 (h:AN w o l H vc vo vw vf f)(hk:H.ok)(s:BR)(hs:s.ok)(hr:H.roomy s=false) :
  Ab AId 167 #[Ah (some ⟨l.h,0,none⟩),kg s] w fun e w'=>e=O (Ak #[I Z 0,I Z 100])/\Ae w.1.size w w':=by
 have eQ:=hk.Bc;have hrd:=zu (3+s.p+s.d) (by obtain⟨h1,h2,_⟩:=hs;omega)
 have HR:=Qa (fun w' (hw:Ae w.1.size w w')=>TP (h.below hw) hk)
 have HS:=Qa (fun w=>xx s hs w)
 have HN:=Qa (fun w=>me (3+s.p+s.d) (by omega) (by obtain⟨h1,h2,_⟩:=hs;omega) _ rfl w)
 have Rr:∀ w',Ae w.1.size w w'->w'.cell? ⟨l.h,13,none⟩=some (I Z H.Ap):=fun w' hb=>by
  rw[(h.hb.below hb h.hb.lt).cell];unfold Hp.cells;split<;>rfl
 have HC:=Qa Rr;unfold Hp.roomy at hr;have hd:((H.left:Nat):Int)<((BJ (3+s.p+s.d):Nat):Int)\/(¬((H.left:Nat):Int)<((BJ (3+s.p+s.d):Nat):Int)/\(1099511627776:Int)<=(H.Ap:Int)):=by
  simp only[Bool.and_eq_false_iff,decide_eq_false_iff_not]at hr;omega
 generalize ((H.left:Nat):Int)=q at HR hd;generalize ((BJ (3+s.p+s.d):Nat):Int)=rn at HN hd;generalize (H.Ap:Int)=sr at *;clear h hk hr eQ hrd Rr;rcases hd with ou|⟨ou,hse⟩
 all_goals
  go_in;have jS:=An.new w #[s.p,s.d,.bool s.AA,.bool s.final] 93;have cS:=jS.cell;go_wp2_with fail;refine (HS.o _).mono ?_;rintro e w1 ⟨rfl,hb1⟩;have hw1:=qd (qa (qc w) _) hb1;clear hb1 cS;go_wp2_with fail;refine (HN.o _).mono ?_;rintro e w2 ⟨rfl,hb2⟩;have hw2:=qd hw1 hb2;go_wp2_with fail;refine (HR.o _ hw2).mono ?_;rintro e w3 ⟨rfl,hb3⟩;have Rr:=HC.o _ (qd hw2 hb3);go_wp2_with fail;go_ret2;exact⟨rfl,qd hw2 hb3⟩
def qpd (h:AN w o l H vc vo vw vf f)(hw:H.wf)(s:BR)(hs:s.ok) :
  Ab AId 167 #[Ah (some ⟨l.h,0,none⟩),kg s] w fun e w'=>e=O (Ak #[I Z ((H.AQ s).2.1:Nat),I Z ((H.AQ s).2.2:Nat)])/\PW w o l (H.AQ s).1 w':=by
 unfold Hp.AQ
 cases hr:H.roomy s with
 | false =>
  rw[if_neg (by simp)]
  refine (qk0 h hw.ok s hs hr).mono ?_;rintro e w' ⟨rfl,hb⟩;exact⟨rfl,h.FI hb⟩
 | true =>
  rw[if_pos rfl]
  cases hu:H.use
  ·exact GK h hw hu s hs hr
  ·exact GL h hw hu s hs hr
end
end
section
open Go.RowKit Go.Lib Go.Shelf Hp
def Yk:Go.Shelf.Ren:=⟨fun|41=>139|n=>n,fun|22=>126|23=>131|4=>4|n=>n,fun|n=>n⟩
def rq:Go.Proofs.SlLaysE0.n41 AId Yk:={
 mixed:=by kernel_rfl
 f41:=⟨Tryz.f139.name,by decide,func139.trans (congrArg some (by kernel_rfl))⟩
 t4:=underlying4
 a4:=isAgg4
 z4:=sizeOf4
 v4:=zeroValue4
 t22:=underlying126
 a22:=isAgg126
 z22:=sizeOf126
 v22:=zeroValue126 }
def Yn:Go.Shelf.Ren:=⟨fun|41=>200|n=>n,fun|22=>212|23=>175|4=>4|n=>n,fun|n=>n⟩
def ny:Go.Proofs.SlLaysE0.n41 AId Yn:={
 mixed:=by kernel_rfl
 f41:=⟨Tryz.f200.name,by decide,func200.trans (congrArg some (by kernel_rfl))⟩
 t4:=underlying4
 a4:=isAgg4
 z4:=sizeOf4
 v4:=zeroValue4
 t22:=underlying212
 a22:=isAgg212
 z22:=sizeOf212
 v22:=zeroValue212 }
def info_parts {t:TypeId}{z:Ac}{s b:Nat}(h:((AId.info? t).map fun i=>(i.zero,i.size,i.bytes))=some (some z,s,b)):∃ i,AId.info? t=some i/\i.size=s/\i.bytes=b/\i.zero=some z:=by
 obtain⟨i,hi,he⟩:=Option.map_eq_some_iff.1 h;injection he with e1 e2;injection e2 with e2 e3;exact⟨i,hi,e2,e3,e1⟩
def Ws:∃ i,AId.info? 131=some i/\i.size=2/\i.bytes=16/\i.zero=some (Al #[I Z 0,I Z 0]):=info_parts (by kernel_rfl)
def VQ:∃ i,AId.info? 175=some i/\i.size=4/\i.bytes=32/\i.zero=some (Al #[I Z 0,I Z 0,I Z 0,I Z 0]):=info_parts (by kernel_rfl)
def dp {w w':Aa}{o:Own}{t:Tag}{e:TypeId}{size n:Nat}{v:Ac}{xs:List Ac}(h:w'.ownsRow w.1.size e size v n xs):Row w' (ext o w.1.size t) t e size v n xs:=by
 refine⟨⟨h.1,?_⟩,fun k hk=>?_⟩
 ·rcases h.2 with hv|⟨g,cap,cur,hv,hb,hg⟩
  ·exact .inl hv
  ·exact .inr ⟨g,cap,cur,hv,Nat.zero_le _,hg⟩
 ·rcases h.2 with ⟨rfl,_⟩|⟨g,cap,cur,rfl,hb,hg⟩
  ·simp[Value.ownBlock]at hk
  ·have:g=k:=by simpa [Value.ownBlock] using hk
   subst this;exact qp hb
section
variable {w : Aa} {o : Own} {t : Tag} {v : Ac} {n : Nat} {xs : List Ac}
def qlm (h:Row w o t 131 2 v n xs)(hn:n<=100000)(h1:∀ u ∈ xs,u.oneCell'=true)(tg:Tag) :
  Ab AId 139 #[v] w fun e w'=>∃ v',e=O v'/\Row w' (ext o w.1.size tg) tg 131 2 v' n xs/\Ae w.1.size w w':=by
 obtain⟨i,hi,hs,hb,hz⟩:=Ws;rcases h.own.2 with⟨rfl,rfl⟩|⟨g,cap,cur,rfl,_⟩
 ·have hx:xs=[]:=Ad (by simpa using h.len)
  subst hx;refine (AnyE.slices_Clone_nil rq 0 0 w).mono ?_;rintro e w'⟨rfl,rfl⟩;exact⟨_,rfl,Row.nil _ _ _ _ _,qc _⟩
 ·refine (AnyE.slices_Clone rq i _ 2 16 hi hz hs hb rfl (by decide) sizeOf131 g 0 n cap xs w h.len (by simp only[maxLen];omega) (by omega) (fun j u hu=>?_) h1).mono ?_
  ·have:=h.own.cells (g:=g) rfl j u hu
   rw[ag];rwa [show (⟨g,0,none⟩:Addr).add j=⟨g,j,none⟩ from by unfold Addr.add;split<;>simp_all]at this
  ·rintro e w'⟨v',rfl,ho,_,hb⟩
   exact⟨v',rfl,dp ho,hb⟩
def qmb (h:Row w o t 175 4 v n xs)(hn:n<=100000)(h1:∀ u ∈ xs,u.oneCell'=true)(tg:Tag) :
  Ab AId 200 #[v] w fun e w'=>∃ v',e=O v'/\Row w' (ext o w.1.size tg) tg 175 4 v' n xs/\Ae w.1.size w w':=by
 obtain⟨i,hi,hs,hb,hz⟩:=VQ;rcases h.own.2 with⟨rfl,rfl⟩|⟨g,cap,cur,rfl,_⟩
 ·have hx:xs=[]:=Ad (by simpa using h.len)
  subst hx;refine (AnyE.slices_Clone_nil ny 0 0 w).mono ?_;rintro e w'⟨rfl,rfl⟩;exact⟨_,rfl,Row.nil _ _ _ _ _,qc _⟩
 ·refine (AnyE.slices_Clone ny i _ 4 32 hi hz hs hb rfl (by decide) sizeOf175 g 0 n cap xs w h.len (by simp only[maxLen];omega) (by omega) (fun j u hu=>?_) h1).mono ?_
  ·have:=h.own.cells (g:=g) rfl j u hu
   rw[ag];rwa [show (⟨g,0,none⟩:Addr).add j=⟨g,j,none⟩ from by unfold Addr.add;split<;>simp_all]at this
  ·rintro e w'⟨v',rfl,ho,_,hb⟩
   exact⟨v',rfl,dp ho,hb⟩
def S9 (h:Row w o t 3 1 v n xs)(hn:n<=100000)(h1:∀ u ∈ xs,u.oneCell'=true)(tg:Tag) :
  Ab AId 63 #[v] w fun e w'=>∃ v',e=O v'/\Row w' (ext o w.1.size tg) tg 3 1 v' n xs/\Ae w.1.size w w':=by
 obtain⟨i,hi,hs,hb,hz⟩:=zh;rcases h.own.2 with⟨rfl,rfl⟩|⟨g,cap,cur,rfl,_⟩
 ·have hx:xs=[]:=Ad (by simpa using h.len)
  subst hx;refine (Tryz.slices_Clone_nil 0 0 w).mono ?_;rintro e w'⟨rfl,rfl⟩;exact⟨_,rfl,Row.nil _ _ _ _ _,qc _⟩
 ·refine (Tryz.slices_Clone i _ 1 8 hi hz hs hb rfl (by decide) sizeOf3 g 0 n cap xs w h.len (by simp only[maxLen];omega) (by omega) (fun j u hu=>?_) h1).mono ?_
  ·have:=h.own.cells (g:=g) rfl j u hu
   rw[ag];rwa [show (⟨g,0,none⟩:Addr).add j=⟨g,j,none⟩ from by unfold Addr.add;split<;>simp_all]at this
  ·rintro e w'⟨v',rfl,ho,_,hb⟩
   exact⟨v',rfl,dp ho,hb⟩
def gj (ps:List Nat)(h:Row w o t 3 1 v ps.length (ps.map nv))(hl:ps.length<=100000)(x:Nat)(z:Int)(hz:z=x) :
  Ab AId 270 #[v,z] w fun e w'=>e=O (.bool (decide (x ∈ ps)))/\w=w':=by
 subst hz;rcases h.form with⟨rfl,h0⟩|⟨g,cap,rfl,hn,hc,_,_⟩
 ·have:ps=[]:=Ad h0
  subst this;refine (Tryz.slices_Contains_int_empty none 0 x w).mono ?_;rintro e w'⟨rfl,rfl⟩;exact⟨by simp,rfl⟩
 ·refine (Tryz.slices_Contains_int g 0 ps.length cap (ps.map fun (p:Nat)=>(p:Int)) x w (by simp) (by omega) ?_).mono ?_
  ·intro j hj
   have hj':j<ps.length:=by simpa using hj
   rw[ag];refine h.cells j _ ?_;rw[Qj,Qb hj'];simp[nv,aj,Qb hj']
  ·rintro e w'⟨rfl,rfl⟩
   rw[List.take_of_length_le (by simp)]
   refine⟨?_,rfl⟩;have e:((ps.map fun (p:Nat)=>(p:Int)).contains (x:Int))=decide (x ∈ ps):=by
    rw[ai];simp only[List.contains_eq_mem,Qt,decide_eq_true_eq];exact⟨fun⟨a,ha,e⟩=>by rw[show x=a by omega];exact ha,fun h=>⟨x,h,rfl⟩⟩
   rw[e]
end
end
section
open Go.RowKit Hp
attribute [local go_sem ↓] Go.wp_at_zero Go.wp_at_succ
structure Un where
 kind:Nat
 pos:Nat
 i:Nat
 old:Int
structure Lg where
 mr:Nat
 mu:Nat
 reads:List Nat
 keeps:List Nat
 holds:List (Nat×Nat)
 Az:List Un
structure Lg.ok (L:Lg):Prop where
 mr:L.mr<=200
 mu:L.mu<=200
 r:L.reads.length<=L.mr
 k:L.keeps.length<=L.mr
 h:L.holds.length<=L.mu
 u:L.Az.length<=L.mu
def qg:List (Nat×Nat)->List Ac
 | []=>[]
 | x::l=>nv x.1::nv x.2::qg l
def qz:List Un->List Ac
 | []=>[]
 | x::l=>nv x.kind::nv x.pos::nv x.i::I Z x.old::qz l
def du (l:List (Nat×Nat))(x:Nat×Nat):qg (l++[x])=qg l++[nv x.1,nv x.2]:=by
 induction l with
 | nil=>rfl
 | cons y l ih=>simp[qg,ih]
def qjz (l:List Un)(x:Un):qz (l++[x])=qz l++[nv x.kind,nv x.pos,nv x.i,I Z x.old]:=by
 induction l with
 | nil=>rfl
 | cons y l ih=>simp[qz,ih]
def uk (l:List (Nat×Nat)):∀ u ∈ qg l,u.oneCell'=true:=by
 induction l with
 | nil=>intro u hu;simp[qg]at hu
 | cons y l ih =>
  intro u hu;simp only[qg,ay]at hu;rcases hu with rfl|rfl|hu
  ·rfl
  ·rfl
  ·exact ih u hu
def Ve (l:List Un):∀ u ∈ qz l,u.oneCell'=true:=by
 induction l with
 | nil=>intro u hu;simp[qz]at hu
 | cons y l ih =>
  intro u hu;simp only[qz,ay]at hu;rcases hu with rfl|rfl|rfl|rfl|hu
  ·rfl
  ·rfl
  ·rfl
  ·rfl
  ·exact ih u hu
def Mg (l:List Nat):∀ u ∈ l.map nv,u.oneCell'=true:=by
 intro u hu;obtain⟨x,_,rfl⟩:=Qt.1 hu;rfl
def yx (l:List (Nat×Nat))(i:Nat)(x:Nat×Nat)(h:l[i]?=some x):(qg l)[2*i]?=some (nv x.1)/\(qg l)[2*i+1]?=some (nv x.2):=by
 induction l generalizing i with
 | nil=>simp at h
 | cons y l ih =>
  cases i with
  | zero=>simp at h;subst h;simp[qg]
  | succ i =>
   simp at h;have:=ih i h;rw[show 2*(i+1)=2*i+2 from by omega]
   simpa [qg] using this
def VL (l:List Un)(i:Nat)(x:Un)(h:l[i]?=some x):(qz l)[4*i]?=some (nv x.kind)/\(qz l)[4*i+1]?=some (nv x.pos)/\(qz l)[4*i+2]?=some (nv x.i)/\(qz l)[4*i+3]?=some (I Z x.old):=by
 induction l generalizing i with
 | nil=>simp at h
 | cons y l ih =>
  cases i with
  | zero=>simp at h;subst h;simp[qz]
  | succ i =>
   simp at h;have:=ih i h;rw[show 4*(i+1)=4*i+4 from by omega]
   simpa [qz] using this
structure BS (w:Aa)(o:Own)(id k b:Nat)(L:Lg)(vr vk vh vu:Ac):Prop where
 A2:An w b #[L.mr,L.mu,vr,vk,vh,vu] 219
 rr:Row w o (id,k+1) 3 1 vr L.reads.length (L.reads.map nv)
 rk:Row w o (id,k+2) 3 1 vk L.keeps.length (L.keeps.map nv)
 rh:Row w o (id,k+3) 131 2 vh L.holds.length (qg L.holds)
 ru:Row w o (id,k+4) 175 4 vu L.Az.length (qz L.Az)
 ob:o b=(id,k)
def BS.below {w w':Aa}{o:Own}{id k b:Nat}{L:Lg}{vr vk vh vu:Ac}(h:BS w o id k b L vr vk vh vu)(hb:Ae w.1.size w w'):BS w' o id k b L vr vk vh vu:=
 ⟨h.A2.below hb h.A2.lt,h.rr.below hb,h.rk.below hb,h.rh.below hb,h.ru.below hb,h.ob⟩
def BS.Ar {T:Tag->Prop}{w w':Aa}{o o':Own}{id k b:Nat}{L:Lg}{vr vk vh vu:Ac}(h:BS w o id k b L vr vk vh vu)(hs:Stp T o o' w w')(hn:∀ j,j<=4->¬T (id,k+j)):BS w' o' id k b L vr vk vh vu:=
 ⟨h.A2.Ar hs (by rw[h.ob];exact hn 0 (by omega)),h.rr.Ar hs (hn 1 (by omega)),h.rk.Ar hs (hn 2 (by omega)),h.rh.Ar hs (hn 3 (by omega)),h.ru.Ar hs (hn 4 (by omega)),(hs.tags _ h.A2.lt).trans h.ob⟩
section
variable {w : Aa} {o : Own} {t0 tg : Tag} {b k : Nat} {cs : Array Ac} {v : Ac} {ps : List Nat}
def Mm (hb:An w b cs 219)(hv:cs[k]?=some v)(hr:Row w o tg 3 1 v ps.length (ps.map nv))(hl:ps.length<=4096)(p m:Nat)(hp:p ∈ ps) :
  Ab AId 238 #[Ah (some ⟨b,k,none⟩),p,m] w fun e w'=>e=O (.bool true)/\w=w':=by
 have HC:=Qa (gj ps hr (by omega) p p rfl)
 rw[decide_eq_true hp]at HC;have c:w.cell? ⟨b,k,none⟩=some v:=by rw[hb.cell];exact hv
 clear hb hv hr hp hl;go_in;go_wp2_with fail;refine HC.o.mono ?_
 rintro e w1 ⟨rfl,rfl⟩
 go_wp2_with fail;go_ret;exact⟨rfl,rfl⟩
def qos (hb:An w b cs 219)(hv:cs[k]?=some v)(hr:Row w o tg 3 1 v ps.length (ps.map nv))(hl:ps.length<=4096)(p m:Nat)(hp:p ∉ ps)(hm:m<=ps.length) :
  Ab AId 238 #[Ah (some ⟨b,k,none⟩),p,m] w fun e w'=>e=O (.bool false)/\w=w':=by
 have HC:=Qa (gj ps hr (by omega) p p rfl)
 rw[decide_eq_false hp]at HC;have c:w.cell? ⟨b,k,none⟩=some v:=by rw[hb.cell];exact hv
 obtain⟨pa,cp,rfl⟩:=hr.A5;have ou:(m:Int)<=(ps.length:Int):=by omega
 clear hb hv hr hp hl;go_in;go_wp2_with fail;refine HC.o.mono ?_
 rintro e w1 ⟨rfl,rfl⟩
 go_wp2_with fail;go_ret;exact⟨rfl,rfl⟩
def JH (hb:An w b cs 219) (hv:cs[k]?=some v) (hr:Row w o tg 3 1 v ps.length (ps.map nv)) (hl:ps.length<=4096) (p m:Nat) (hp:p ∉ ps) (hm:ps.length<m) (ht:o b=t0) (hne:t0≠tg) :
  Ab AId 238 #[Ah (some ⟨b,k,none⟩),p,m] w fun e w'=>e=O (.bool true) /\
   ∃ v' o',An w' b (cs.setIfInBounds k v') 219/\Row w' o' tg 3 1 v' (ps++[p]).length ((ps++[p]).map nv)/\Stp (fun t=>t=t0\/t=tg) o o' w w':=by
 have HC:=Qa (gj ps hr (by omega) p p rfl)
 rw[decide_eq_false hp]at HC;have c:w.cell? ⟨b,k,none⟩=some v:=by rw[hb.cell];exact hv
 have s:=hb.lt;have z:=hb.free k;have ou:(ps.length:Int)<(m:Int):=by omega
 obtain⟨iI,hi,hsI,cZ,bZ⟩:=zh;have hu64:=underlying25;have hw:=Qa (N4 hl);obtain⟨qC,iy,rfl⟩:=hr.A5;clear hm hl;go_in;go_wp2_with fail;refine HC.o.mono ?_
 rintro e w1 ⟨rfl,rfl⟩
 go_wp2_with (first|(at_builtin;refine qf _ rfl _ _ _ rfl 3 iI _ 1 8 hu64 hi bZ hsI cZ rfl (by decide) o tg _ _ _ rfl (Row.below hr (qa (qc w) _)) ⟨w.1.size,0,none⟩ 1 1 [I Z p] rfl rfl (qv (An.new w _ _)) jd hw.o.1 hw.o.2 ?_;intro v' w8 hown hst;obtain⟨pa,cp,rfl⟩:=hown.A5;have j8:=(hb.alloc (AIe #[p] 3)).Ar hst (by rw[ht];exact hne);have c8:w8.cell? ⟨b,k,none⟩=some (.slice qC ps.length iy):=(by rw[j8.cell];exact hv);have z8:=j8.free k;have s8:=j8.lt)|fail)
 go_ret;have k8:=Stp.setCell (T:=fun t=>t=t0) (Stp.refl _ (ext o (w.alloc (AIe #[p] 3)).1.size tg) w8) (a:=⟨b,k,none⟩) (by show ext o _ _ b=_;rw[qj (hb.alloc (AIe #[p] 3)).lt];exact ht) (.slice pa (ps.length+1) cp)
 refine⟨rfl,_,_,j8.set k _,?_,(((Stp.of_below (T:=fun t=>t=tg) (qa (qc w) (AIe #[p] 3))).trans hst).mono fun _ e=>Or.inr e).trans (k8.mono fun _ e=>Or.inl e)⟩
 simpa [nv] using hown.Ar k8 (fun e=>hne e.symm)
end
def wv (l:List Nat)(p m:Nat):List Nat:=if p ∈ l then l else if l.length<m then l++[p] else l
def yi (l:List Nat)(p m:Nat):Bool:=decide (p ∈ l\/l.length<m)
section
variable {w : Aa} {o : Own} {id k b : Nat} {L : Lg} {vr vk vh vu : Ac}
def V7 (cs:Array Ac)(j:Nat)(v:Ac)(ps:List Nat)(t0 tg:Tag)(hb:An w b cs 219)(hv:cs[j]?=some v)(hr:Row w o tg 3 1 v ps.length (ps.map nv))(hl:ps.length<=4096)(p m:Nat)(ht:o b=t0)(hne:t0≠tg) :
  Ab AId 238 #[Ah (some ⟨b,j,none⟩),p,m] w fun e w'=>e=O (.bool (yi ps p m)) /\
   ∃ v' o',An w' b (cs.setIfInBounds j v') 219/\Row w' o' tg 3 1 v' (wv ps p m).length ((wv ps p m).map nv)/\Stp (fun t=>t=t0\/t=tg) o o' w w':=by
 have hcs:(cs.setIfInBounds j v)=cs:=by
  apply Array.ext_getElem?;intro i;rw[Array.getElem?_setIfInBounds];split
  ·rename_i e;subst e
   split
   ·exact hv.symm
   ·rename_i e2;rw[Array.getElem?_eq_none (by omega)]
  ·rfl
 unfold yi wv;by_cases hp:p ∈ ps
 ·rw[if_pos hp,decide_eq_true (Or.inl hp)]
  refine (Mm hb hv hr hl p m hp).mono ?_;rintro e w' ⟨rfl,rfl⟩;exact⟨rfl,v,o,by rw[hcs];exact hb,hr,Stp.refl _ _ _⟩
 ·rw[if_neg hp]
  by_cases hm:ps.length<m
  ·rw[if_pos hm,decide_eq_true (Or.inr hm)]
   exact JH hb hv hr hl p m hp hm ht hne
  ·rw[if_neg hm,decide_eq_false (fun e=>e.elim hp hm)]
   refine (qos hb hv hr hl p m hp (by omega)).mono ?_
   rintro e w' ⟨rfl,rfl⟩;exact⟨rfl,v,o,by rw[hcs];exact hb,hr,Stp.refl _ _ _⟩
def Ju (h:BS w o id k b L vr vk vh vu) (hk:L.ok) (p:Nat) :
  Ab AId 183 #[Ah (some ⟨b,0,none⟩),p] w fun e w'=>e=O (.bool (yi L.reads p L.mr)) /\
   ∃ nQ o',BS w' o' id k b { L with reads:=wv L.reads p L.mr } nQ vk vh vu/\Stp (fun t=>t=(id,k)\/t=(id,k+1)) o o' w w':=by
 have HN:=Qa (V7 (w:=w.drew) _ 2 _ L.reads (id,k) (id,k+1) (qi h.A2) rfl (h.rr.below (qe (qc w))) (by have:=hk.r;have:=hk.mr;omega) p L.mr h.ob (by simp))
 have HI:=Qa h;have c:=h.A2.cell;generalize yi L.reads p L.mr=bb at *;clear h hk;go_in;go_upto_region 1 with fail;go_still_tail 11,(by kernel_rfl)
 change wpList _ _ _ _ _ w.drew;go_wp2_with fail;refine HN.o.mono ?_
 rintro e w1 ⟨rfl,v',o',hb,hr,hs⟩
 go_wp2_with fail;go_ret;have hs':Stp (fun t=>t=(id,k)\/t=(id,k+1)) o o' w w1:=(Stp.of_below (qe (qc w))).trans hs
 have h:=HI.o;exact⟨rfl,v',o',⟨hb,hr,h.rk.Ar hs' (by simp),h.rh.Ar hs' (by simp),h.ru.Ar hs' (by simp),(hs'.tags _ h.A2.lt).trans h.ob⟩,hs'⟩
def Jt (h:BS w o id k b L vr vk vh vu) (hk:L.ok) (p:Nat) :
  Ab AId 261 #[Ah (some ⟨b,0,none⟩),p] w fun e w'=>e=O (.bool (yi L.keeps p L.mr)) /\
   ∃ vk' o',BS w' o' id k b { L with keeps:=wv L.keeps p L.mr } vr vk' vh vu/\Stp (fun t=>t=(id,k)\/t=(id,k+2)) o o' w w':=by
 have HN:=Qa (V7 (w:=w.drew) _ 3 _ L.keeps (id,k) (id,k+2) (qi h.A2) rfl (h.rk.below (qe (qc w))) (by have:=hk.k;have:=hk.mr;omega) p L.mr h.ob (by simp))
 have HI:=Qa h;have c:=h.A2.cell;generalize yi L.keeps p L.mr=bb at *;clear h hk;go_in;go_upto_region 1 with fail;go_still_tail 11,(by kernel_rfl)
 change wpList _ _ _ _ _ w.drew;go_wp2_with fail;refine HN.o.mono ?_
 rintro e w1 ⟨rfl,v',o',hb,hr,hs⟩
 go_wp2_with fail;go_ret;have hs':Stp (fun t=>t=(id,k)\/t=(id,k+2)) o o' w w1:=(Stp.of_below (qe (qc w))).trans hs
 have h:=HI.o;exact⟨rfl,v',o',⟨hb,h.rr.Ar hs' (by simp),hr,h.rh.Ar hs' (by simp),h.ru.Ar hs' (by simp),(hs'.tags _ h.A2.lt).trans h.ob⟩,hs'⟩
def qp5 (h:BS w o id k b L vr vk vh vu)(hk:L.ok)(tg:Tag) :
  Ab AId 81 #[Ah (some ⟨b,0,none⟩)] w fun e w'=>∃ v',e=O v'/\Row w' (ext o w.1.size tg) tg 3 1 v' L.reads.length (L.reads.map nv)/\Ae w.1.size w w':=by
 have HN:=Qa (S9 h.rr (by have:=hk.r;have:=hk.mr;omega) (Mg _) tg)
 have c:=h.A2.cell;clear h hk;go_in;go_wp2_with fail;refine HN.o.mono ?_
 rintro e w1 ⟨v',rfl,hr,hb⟩
 go_wp2_with fail;go_ret;exact⟨_,rfl,hr,hb⟩
def Tg (h:BS w o id k b L vr vk vh vu)(hk:L.ok)(tg:Tag) :
  Ab AId 79 #[Ah (some ⟨b,0,none⟩)] w fun e w'=>∃ v',e=O v'/\Row w' (ext o w.1.size tg) tg 131 2 v' L.holds.length (qg L.holds)/\Ae w.1.size w w':=by
 have HN:=Qa (qlm h.rh (by have:=hk.h;have:=hk.mu;omega) (uk _) tg)
 have c:=h.A2.cell;clear h hk;go_in;go_wp2_with fail;refine HN.o.mono ?_
 rintro e w1 ⟨v',rfl,hr,hb⟩
 go_wp2_with fail;go_ret;exact⟨_,rfl,hr,hb⟩
def qo6 (h:BS w o id k b L vr vk vh vu)(hk:L.ok)(tg:Tag) :
  Ab AId 133 #[Ah (some ⟨b,0,none⟩)] w fun e w'=>∃ v',e=O v'/\Row w' (ext o w.1.size tg) tg 175 4 v' L.Az.length (qz L.Az)/\Ae w.1.size w w':=by
 have HN:=Qa (qmb h.ru (by have:=hk.u;have:=hk.mu;omega) (Ve _) tg)
 have c:=h.A2.cell;clear h hk;go_in;go_wp2_with fail;refine HN.o.mono ?_
 rintro e w1 ⟨v',rfl,hr,hb⟩
 go_wp2_with fail;go_ret;exact⟨_,rfl,hr,hb⟩
def qo8 (h:BS w o id k b L vr vk vh vu) :
  Ab AId 140 #[Ah (some ⟨b,0,none⟩)] w fun e w'=>e=O (Ak #[])/\BS w' o id k b { L with reads:=[],keeps:=[],holds:=[],Az:=[] } (Ai none 0 0) (Ai none 0 0) (Ai none 0 0) (Ai none 0 0)/\Stp (fun t=>t=(id,k)) o o w w':=by
 have HI:=Qa h;have j:=h.A2;have c:=h.A2.cell;have z:=h.A2.free;have s:=h.A2.lt;clear h;go_in;go_wp2_with fail;go_end0;have cO:=HI.o.ob;refine⟨rfl,⟨(((j.set 2 _).set 3 _).set 4 _).set 5 _,Row.nil _ _ _ _ _,Row.nil _ _ _ _ _,Row.nil _ _ _ _ _,Row.nil _ _ _ _ _,cO⟩,?_⟩;exact ((((Stp.refl _ o w).setCell (by simpa using cO) _).setCell (by simpa using cO) _).setCell (by simpa using cO) _).setCell (by simpa using cO) _
end
end
section
open Go.RowKit Hp
structure Tx where
 live:Bool
 start:Nat
 seen:Nat
 log:Lg
 AZ:List (Nat×Nat)
structure Am where
 H:Hp
 ph:Nat
 now:Nat
 most:Nat
 Au:List Tx
 queue:List (Nat×Nat)
 next:Nat
 Aw:Int
 version:Nat
 lost:List Nat
 came:List Nat
def jh (l:List Tx):Nat:=(l.filter (·.live)).length
def vj:List Tx->Nat
 | []=>0
 | x::l=>x.AZ.length+vj l
def yo (v:Nat):Prop:=v%2=1->v/2<8
structure Lg.fit (L:Lg):Prop where
 ok:L.ok
 hv:∀ z ∈ L.holds,z.2<=1099511627776
 un:∀ u ∈ L.Az,-9223372036854775808<=u.old/\u.old<=9223372036854775807
 kd:∀ u ∈ L.Az,u.kind=1->0<=u.old
structure Am.ok (S:Am):Prop where
 H:S.H.wf
 n2:S.most<=1099511627776
 lv:S.now+jh S.Au<=S.most
 t1:1<=S.Au.length
 t8:S.Au.length<=8
 lg:∀ x ∈ S.Au,x.log.fit
 st:∀ x ∈ S.Au,x.start<=S.now
 ve:S.version<=S.now
 ho:-1<=S.Aw/\S.Aw<=8
 sc:∀ x ∈ S.H.cur,yo x.2.second
 so:∀ x ∈ S.H.old,yo x.2.1.second
 qu:S.queue.length+vj S.Au<=S.next
 nx:S.next+S.H.final.length<=S.H.Ap
 cm:S.came.length<=S.next
 se:∀ x ∈ S.Au,x.seen<=S.next
 ph:S.ph<=2/\(S.ph=0↔S.H.AL=false)
def Am.ok.n1 {S:Am}(h:S.ok):S.now<=S.most:=by have:=h.lv;omega
def Am.ok.KZ {S:Am}(h:S.ok):S.next<=1099511627776:=by have:=h.nx;have:=h.H.ok.Bc;omega
structure Bj where
 sb:Nat
 l:Bo
 cy:Nat
 ck:Nat
 Fz:Ac
 xb:Nat->Nat
 lb:Nat->Nat
abbrev ptr (b:Nat):Ac:=Ah (some ⟨b,0,none⟩)
def zg (i:Nat)(x:Tx)(lb:Nat)(vt:Ac):Array Ac:=#[i,.bool x.live,x.start,x.seen,ptr lb,vt]
structure Fb (w:Aa)(o:Own)(id i xb lb:Nat)(x:Tx):Prop where
 A2:∃ vt,An w xb (zg i x lb vt) 107/\Row w o (id,22+8*i) 117 2 vt x.AZ.length (qg x.AZ)
 log:∃ vr vk vh vu,BS w o id (17+8*i) lb x.log vr vk vh vu
 ob:o xb=(id,16+8*i)
def X5 (cy:Nat)(n:Nat):Ac:=if n=1 then .func (.func 126) #[ptr cy] #[] else .func (.func 190) #[ptr cy] #[]
def XQ (y:Bj)(vp:Ac):Array Ac:=#[ptr y.l.h,vp,Ai none 0 0,Ai none 0 0]
def BX (w:Aa)(o:Own)(l:Bo)(H:Hp):Prop:=∃ vc vo vw vf f,AN w o l H vc vo vw vf f
def qk (y:Bj)(S:Am)(vq vl vm:Ac):Array Ac:=
 #[ptr y.l.h,ptr y.cy,ptr y.ck,y.Fz,vq,S.next,S.Aw,S.version,vl,vm]
structure Cy (w:Aa)(o:Own)(id:Nat)(S:Am)(vq vl vm:Ac):Prop where
 q:Row w o (id,13) 117 2 vq S.queue.length (qg S.queue)
 l:Row w o (id,14) 3 1 vl S.lost.length (S.lost.map nv)
 m:Row w o (id,15) 3 1 vm S.came.length (S.came.map nv)
def FN (cy:Nat)(n:Nat):Ac:=if n=0 then .nilFunc else X5 cy n
structure Av (w:Aa)(o:Own)(y:Bj)(S:Am):Prop where
 A2:∃ vq vl vm,An w y.sb (qk y S vq vl vm) 101/\Cy w o y.l.id S vq vl vm
 cy:An w y.cy (XQ y (FN y.cy S.ph)) 201
 hp:BX w o y.l S.H
 ck:An w y.ck #[S.now,S.most] 193
 Ev:Row w o (y.l.id,12) 103 1 y.Fz S.Au.length ((List.range S.Au.length).map fun i=>ptr (y.xb i))
 Au:∀ i x,S.Au[i]?=some x->Fb w o y.l.id i (y.xb i) (y.lb i) x
 oc:o y.ck=(y.l.id,10)
 os:o y.sb=(y.l.id,11)
 oy:o y.cy=(y.l.id,7)
def AN.Ar {T:Tag->Prop}{w w':Aa}{o o':Own}{l:Bo}{H:Hp}{vc vo vw vf:Ac}{f:Nat->Nat}(h:AN w o l H vc vo vw vf f)(hs:Stp T o o' w w')(hn:∀ j,j<=6->¬T (l.id,j)):AN w' o' l H vc vo vw vf f:=
 ⟨h.hb.Ar hs (by rw[h.oh];exact hn 0 (by omega)),h.Cq.Ar hs (by rw[h.oa];exact hn 1 (by omega)) (by rw[h.ow];exact hn 2 (by omega)),
  h.rc.Ar hs (hn _ (by split<;>omega)),h.ro.Ar hs (hn _ (by split<;>omega)),h.rw.Ar hs (hn 5 (by omega)),h.rf.Ar hs (hn 6 (by omega)),
  (hs.tags _ h.hb.lt).trans h.oh,(hs.tags _ h.Cq.Cl.lt).trans h.oa,(hs.tags _ h.Cq.lt).trans h.ow,h.FC,h.Cs⟩
def BX.Ar {T:Tag->Prop}{w w':Aa}{o o':Own}{l:Bo}{H:Hp}(h:BX w o l H)(hs:Stp T o o' w w')(hn:∀ j,j<=6->¬T (l.id,j)):BX w' o' l H:=by
 obtain⟨vc,vo,vw,vf,f,h⟩:=h;exact⟨vc,vo,vw,vf,f,h.Ar hs hn⟩
def Fb.Ar {T:Tag->Prop}{w w':Aa}{o o':Own}{id i xb lb:Nat}{x:Tx}(h:Fb w o id i xb lb x)(hs:Stp T o o' w w')(hn:∀ j,j<=7->¬T (id,16+8*i+j)):Fb w' o' id i xb lb x:=by
 obtain⟨vr,vk,vh,vu,hl⟩:=h.log;obtain⟨vt,hb,hr⟩:=h.A2;refine⟨⟨vt,hb.Ar hs (by rw[h.ob];exact hn 0 (by omega)),hr.Ar hs ?_⟩,⟨vr,vk,vh,vu,hl.Ar hs fun j hj=>?_⟩,(hs.tags _ hb.lt).trans h.ob⟩
 ·have:=hn 6 (by omega)
  rwa [show 16+8*i+6=22+8*i from by omega]at this
 ·have:=hn (1+j) (by omega)
  rwa [show 16+8*i+(1+j)=17+8*i+j from by omega]at this
def Cy.Ar {T:Tag->Prop}{w w':Aa}{o o':Own}{id:Nat}{S:Am}{vq vl vm:Ac}(h:Cy w o id S vq vl vm)(hs:Stp T o o' w w')(hn:∀ j,13<=j->j<=15->¬T (id,j)):Cy w' o' id S vq vl vm:=
 ⟨h.q.Ar hs (hn 13 (by omega) (by omega)),h.l.Ar hs (hn 14 (by omega) (by omega)),h.m.Ar hs (hn 15 (by omega) (by omega))⟩
section
variable {w w' : Aa} {o o' : Own} {y : Bj} {S : Am}
def Av.lt (h:Av w o y S):y.sb<w.1.size:=by obtain⟨_,_,_,hb,_⟩:=h.A2;exact hb.lt
def Av.Ar {T:Tag->Prop}(h:Av w o y S)(hs:Stp T o o' w w')(hn:∀ j,¬T (y.l.id,j)):Av w' o' y S:=by
 obtain⟨vq,vl,vm,hb,hr⟩:=h.A2;exact⟨⟨vq,vl,vm,hb.Ar hs (by rw[h.os];exact hn _),hr.Ar hs fun j _ _=>hn j⟩,h.cy.Ar hs (by rw[h.oy];exact hn _),h.hp.Ar hs fun j _=>hn j,h.ck.Ar hs (by rw[h.oc];exact hn _),h.Ev.Ar hs (hn _),fun i x hx=>(h.Au i x hx).Ar hs fun j _=>hn _,(hs.tags _ h.ck.lt).trans h.oc,(hs.tags _ h.lt).trans h.os,(hs.tags _ h.cy.lt).trans h.oy⟩
def Av.below (h:Av w o y S)(hb:Ae w.1.size w w'):Av w' o y S:=h.Ar (T:=fun _=>False) (Stp.of_below hb) fun _ h=>h
def Av.retag (h:Av w o y S)(he:∀ b,b<w.1.size->o' b=o b):Av w o' y S:=
 h.Ar (T:=fun _=>False) ⟨rfl,rfl,rfl,Qk _,he,fun _ _ _=>rfl⟩ fun _ h=>h
def Av.box (h:Av w o y S){a:Addr}(ht:o a.block=(y.l.id+1,0))(v:Ac):Av (w.setCell a v) o y S:=
 h.Ar (T:=fun t=>t=(y.l.id+1,0)) ((Stp.refl _ o w).setCell ht v) fun j=>by simp
def Av.alloc (h:Av w o y S)(x:Obj):Av (w.alloc x) o y S:=h.below (qa (qc w) x)
def Av.heap (h:Av w o y S){H':Hp}(hh:BX w' o' y.l H')(hs:Stp (zd y.l) o o' w w'):Av w' o' y { S with H:=H' }:=by
 obtain⟨vq,vl,vm,hb,hr⟩:=h.A2;have hn:∀ j,7<=j->¬zd y.l (y.l.id,j):=fun j hj hh=>by have:=hh.2;simp at this;omega
 exact⟨⟨vq,vl,vm,hb.Ar hs (by rw[h.os];exact hn _ (by omega)),(hr.Ar hs fun j _ _=>hn j (by omega):Cy w' o' y.l.id S vq vl vm).1,(hr.Ar hs fun j _ _=>hn j (by omega):Cy w' o' y.l.id S vq vl vm).2,(hr.Ar hs fun j _ _=>hn j (by omega):Cy w' o' y.l.id S vq vl vm).3⟩,h.cy.Ar hs (by rw[h.oy];exact hn _ (by omega)),hh,h.ck.Ar hs (by rw[h.oc];exact hn _ (by omega)),h.Ev.Ar hs (hn _ (by omega)),fun i x hx=>(h.Au i x hx).Ar hs fun j _=>hn _ (by omega),(hs.tags _ h.ck.lt).trans h.oc,(hs.tags _ h.lt).trans h.os,(hs.tags _ h.cy.lt).trans h.oy⟩
def uo (y:Bj)(i:Nat)(t:Tag):Prop:=t.1=y.l.id/\16+8*i<=t.2/\t.2<=23+8*i
def ml {y:Bj}{i j:Nat}(h:j<16):¬uo y i (y.l.id,j):=fun hh=>by have:=hh.2.1;simp at this;omega
def yz:∀ (l:List Tx)(i:Nat)(x z:Tx),l[i]?=some z->vj (l.set i x)+z.AZ.length=vj l+x.AZ.length
 | [],i,x,z,h=>by simp at h
 | q::l,0,x,z,h=>by simp at h;subst h;simp[vj];omega
 | q::l,i+1,x,z,h=>by
  have:=yz l i x z (by simpa using h)
  simp[vj];omega
def kn (q:Tx)(l:List Tx):jh (q::l)=(if q.live then 1 else 0)+jh l:=by
 unfold jh;rw[List.filter_cons];split
 ·rw[Qv];omega
 ·omega
def y8:∀ (l:List Tx)(i:Nat)(x z:Tx),l[i]?=some z->jh (l.set i x)+(if z.live then 1 else 0)=jh l+if x.live then 1 else 0
 | [],i,x,z,h=>by simp at h
 | q::l,0,x,z,h=>by
  simp at h;subst h;rw[List.set_cons_zero,kn,kn];omega
 | q::l,i+1,x,z,h=>by
  have:=y8 l i x z (by simpa using h)
  rw[List.set_cons_succ,kn,kn];omega
def Av.tx (h:Av w o y S){i:Nat}{x':Tx}(hx':Fb w' o' y.l.id i (y.xb i) (y.lb i) x')(hs:Stp (uo y i) o o' w w'):Av w' o' y { S with Au:=S.Au.set i x' }:=by
 obtain⟨vq,vl,vm,hb,hr⟩:=h.A2;refine⟨⟨vq,vl,vm,hb.Ar hs (by rw[h.os];exact ml (by omega)),?_⟩,h.cy.Ar hs (by rw[h.oy];exact ml (by omega)),h.hp.Ar hs fun j hj=>ml (by omega),h.ck.Ar hs (by rw[h.oc];exact ml (by omega)),?_,fun j x hx=>?_,(hs.tags _ h.ck.lt).trans h.oc,(hs.tags _ h.lt).trans h.os,(hs.tags _ h.cy.lt).trans h.oy⟩
 ·have hr':=hr.Ar hs fun j _ _=>ml (by omega)
  exact⟨hr'.q,hr'.l,hr'.m⟩
 ·show Row w' o' _ _ 1 y.Fz (S.Au.set i x').length _
  rw[Qq];exact h.Ev.Ar hs (ml (by omega))
 ·simp only[Qr]at hx
  split at hx
  ·rename_i e;subst e
   split at hx
   ·injection hx with hx;subst hx;exact hx'
   ·cases hx
  ·rename_i e
   exact (h.Au j x hx).Ar hs fun k hk hh=>by have:=hh.2;simp at this;omega
def Av.clock (h:Av w o y S){n:Nat}(hc:An w' y.ck #[n,S.most] 193)(hs:Stp (fun t=>t=(y.l.id,10)) o o' w w'):Av w' o' y { S with now:=n }:=by
 obtain⟨vq,vl,vm,hb,hr⟩:=h.A2;have hn:∀ j,j≠10->¬(y.l.id,j)=(y.l.id,10):=fun j hj e=>hj (by simpa using e)
 have hr':=hr.Ar hs fun j _ _=>hn j (by omega)
 exact⟨⟨vq,vl,vm,hb.Ar hs (by rw[h.os];exact hn _ (by omega)),hr'.q,hr'.l,hr'.m⟩,h.cy.Ar hs (by rw[h.oy];exact hn _ (by omega)),h.hp.Ar hs fun j hj=>hn _ (by omega),hc,h.Ev.Ar hs (hn _ (by omega)),fun i x hx=>(h.Au i x hx).Ar hs fun j _=>hn _ (by omega),(hs.tags _ h.ck.lt).trans h.oc,(hs.tags _ h.lt).trans h.os,(hs.tags _ h.cy.lt).trans h.oy⟩
def ka (y:Bj)(t:Tag):Prop:=t.1=y.l.id/\(t.2=11\/t.2=13\/t.2=14\/t.2=15)
def bp {y:Bj}{j:Nat}(h1:j≠11)(h2:j≠13)(h3:j≠14)(h4:j≠15):¬ka y (y.l.id,j):=fun hh=>by have:=hh.2;simp at this;omega
def Av.own (h:Av w o y S){S':Am}(e1:S'.H=S.H)(e2:S'.ph=S.ph)(e3:S'.now=S.now)(e4:S'.most=S.most)(e5:S'.Au=S.Au)
  {vq vl vm:Ac}(hb:An w' y.sb (qk y S' vq vl vm) 101)(hr:Cy w' o' y.l.id S' vq vl vm)(hs:Stp (ka y) o o' w w'):Av w' o' y S':=by
 have hn:∀ j,j≠11->j≠13->j≠14->j≠15->¬ka y (y.l.id,j):=fun j a b c d=>bp a b c d
 exact⟨⟨vq,vl,vm,hb,hr⟩,by rw[e2];exact h.cy.Ar hs (by rw[h.oy];exact hn _ (by omega) (by omega) (by omega) (by omega)),by rw[e1];exact h.hp.Ar hs fun j hj=>hn _ (by omega) (by omega) (by omega) (by omega),
  by rw[e3,e4];exact h.ck.Ar hs (by rw[h.oc];exact hn _ (by omega) (by omega) (by omega) (by omega)),by rw[e5];exact h.Ev.Ar hs (hn _ (by omega) (by omega) (by omega) (by omega)),fun i x hx=>(h.Au i x (by rw[<-e5];exact hx)).Ar hs fun j _=>hn _ (by omega) (by omega) (by omega) (by omega),
  (hs.tags _ h.ck.lt).trans h.oc,(hs.tags _ h.lt).trans h.os,(hs.tags _ h.cy.lt).trans h.oy⟩
def Av.Ek (h:Av w o y S)(i:Nat)(hi:i<S.Au.length):∃ g cap,y.Fz=Ai (some ⟨g,0,none⟩) S.Au.length cap/\w.cell? ⟨g,i,none⟩=some (ptr (y.xb i))/\S.Au.length<=cap:=by
 rcases h.Ev.form with ⟨_,h0⟩|⟨g,cap,e,hn,hc,_⟩
 ·omega
 ·refine⟨g,cap,e,?_,hn⟩
  have hr:=h.Ev;rw[e]at hr;refine hr.cells i _ ?_;rw[Qj,List.getElem?_range hi];rfl
def qh (y:Bj)(t:Tag):Prop:=t.1=y.l.id
def qo (y:Bj):¬qh y (y.l.id+1,0):=by unfold qh;simp
def Ru {y:Bj}{i:Nat}{t:Tag}(h:uo y i t):qh y t:=h.1
def RN {y:Bj}{t:Tag}(h:zd y.l t):qh y t:=h.1
def mn {y:Bj}{t:Tag}(h:ka y t):qh y t:=h.1
def BK (y:Bj)(S:Am)(o:Own)(w w':Aa):Prop:=∃ o',Av w' o' y S/\Stp (qh y) o o' w w'
def Av.EC (h:Av w o y S)(hb:Ae w.1.size w w'):BK y S o w w':=⟨o,h.below hb,Stp.of_below hb⟩
def Av.Ep (h:Av w o y S):BK y S o w w:=h.EC (qc w)
end
def Am.t (S:Am)(i:Nat):Tx:=S.Au.getD i ⟨false,0,0,⟨0,0,[],[],[],[]⟩,[]⟩
def Am.AV {S:Am}{i:Nat}(h:i<S.Au.length):S.Au[i]?=some (S.t i):=by
 unfold Am.t;simp[aj,Qb h]
def Am.tx (S:Am)(i:Nat)(x:Tx):Am:={ S with Au:=S.Au.set i x }
def Am.CZ {S:Am}{i:Nat}(h:i<S.Au.length)(x:Tx):(S.tx i x).t i=x:=by
 unfold Am.t Am.tx;simp[aj,h]
def Am.Fy (S:Am){i j:Nat}(h:i≠j)(x:Tx):(S.tx i x).t j=S.t j:=by
 unfold Am.t Am.tx;simp[aj,List.getElem?_set_ne h]
def Am.Bu (S:Am)(i:Nat)(x:Tx):(S.tx i x).Au.length=S.Au.length:=by simp[Am.tx]
def Am.Ro (S:Am)(i:Nat)(x z:Tx):(S.tx i x).tx i z=S.tx i z:=by simp[Am.tx,List.set_set]
def Am.Mn {S:Am}(hk:S.ok){H':Hp}(h:H'.wf)(hs:∀ x ∈ H'.cur,yo x.2.second)(ho:∀ x ∈ H'.old,yo x.2.1.second)(hf:S.next+H'.final.length<=H'.Ap)(hm:H'.AL=S.H.AL):Am.ok { S with H:=H' }:=
 ⟨h,hk.n2,hk.lv,hk.t1,hk.t8,hk.lg,hk.st,hk.ve,hk.ho,hs,ho,hk.qu,hf,hk.cm,hk.se,by rw[hm];exact hk.ph⟩
def Am.QT {S:Am}(hk:S.ok){i:Nat}{x x':Tx}(hx:S.Au[i]?=some x)(h1:x'.log.fit)(h2:x'.start<=S.now)(h3:x'.seen<=S.next)(h4:x'.live=x.live)(h5:x'.AZ=x.AZ):Am.ok (S.tx i x'):=by
 have hl:=y8 S.Au i x' x hx;have ht:=yz S.Au i x' x hx;rw[h4]at hl;rw[h5]at ht;have hmem:∀ z ∈ S.Au.set i x',z ∈ S.Au\/z=x':=fun z hz=>List.mem_or_eq_of_mem_set hz
 refine⟨hk.H,hk.n2,by have hl':=Nat.add_right_cancel hl;show S.now+jh (S.Au.set i x')<=S.most;rw[hl'];exact hk.lv,by simpa [Am.tx] using hk.t1,by simpa [Am.tx] using hk.t8,fun z hz=>?_,fun z hz=>?_,hk.ve,hk.ho,hk.sc,hk.so,by show S.queue.length+vj (S.Au.set i x')<=S.next;have:=hk.qu;omega,hk.nx,hk.cm,fun z hz=>?_,hk.ph⟩
 ·rcases hmem z hz with h|rfl
  ·exact hk.lg z h
  ·exact h1
 ·rcases hmem z hz with h|rfl
  ·exact hk.st z h
  ·exact h2
 ·rcases hmem z hz with h|rfl
  ·exact hk.se z h
  ·exact h3
end
section
open Go.RowKit Hp
attribute [local go_sem ↓] Go.wp_at_zero Go.wp_at_succ
def Hp.sec (H:Hp)(p:Nat):Nat:=match lk H.cur p with|some ob=>ob.second|none=>0
def Hp.Dc (H:Hp)(p:Nat):Nat×Nat:=match lk H.cur p with|some ob=>(ob.Ap,0)|none=>(0,70)
def Hp.Cp (H:Hp)(p i:Nat):Int×Nat:=match lk H.cur p with|none=>(0,70)|some ob=>match ob.nums[i]? with|none=>(0,71)|some n=>(n,0)
def vy (i start v:Nat):Bool:=if v%2=1 then decide (v/2≠i) else decide (start<v/2)
def Am.ok.sec {S:Am}(hk:S.ok)(p:Nat):yo (S.H.sec p)/\S.H.sec p<=2199023255552:=by
 unfold Hp.sec;split
 ·rename_i ob hp;exact⟨hk.sc _ (zk hp),(hk.H.Eg hp).sec⟩
 ·exact⟨fun h=>by simp at h,by omega⟩
def Sr {l:List (Nat×Ob)}{p:Nat}{o:Ob}{P:Nat->Prop}(h:∀ x ∈ l,P x.2.second)(ho:P o.second):∀ x ∈ up l p o,P x.2.second:=by
 intro x hx;obtain⟨z,hz,rfl⟩:=Qt.1 hx;split
 ·exact ho
 ·exact h z hz
def Am.Dw {S:Am}(hk:S.ok){p:Nat}{ob dM:Ob}(hp:lk S.H.cur p=some ob)(ho:dM.ok)(hs:dM.AM=ob.AM)(h2:yo dM.second):Am.ok { S with H:={ S.H with cur:=up S.H.cur p dM } }:=
 Am.Mn hk (Pr hk.H hp ho hs) (Sr hk.sc h2) hk.so hk.nx rfl
def Am.DF {S:Am}(hk:S.ok)(p i q:Nat):Am.ok { S with H:=(S.H.Bh p i q).1 }:=by
 unfold Hp.Bh;split
 ·exact hk
 ·rename_i ob hp
  split
  ·exact hk
  ·rename_i hq
   split
   ·exact hk
   ·exact Am.Dw hk hp (Ob.Cv (hk.H.Eg hp) i q (Pm hk.H.ok hq)) rfl (hk.sc _ (zk hp))
def Am.Ee {S:Am}(hk:S.ok)(p i:Nat){n:Int}(hn:-9223372036854775808<=n/\n<=9223372036854775807):Am.ok { S with H:=(S.H.Bv p i n).1 }:=by
 unfold Hp.Bv;split
 ·exact hk
 ·rename_i ob hp
  split
  ·exact hk
  ·exact Am.Dw hk hp (Ob.EM (hk.H.Eg hp) i n hn) rfl (hk.sc _ (zk hp))
def Am.CG {S:Am}(hk:S.ok)(p:Nat)(b:Bool):Am.ok { S with H:=(S.H.AX p b).1 }:=by
 unfold Hp.AX;split
 ·exact hk
 ·rename_i ob hp;exact Am.Dw hk hp (Ob.Eh (hk.H.Eg hp) b) rfl (hk.sc _ (zk hp))
def Am.CR {S:Am}(hk:S.ok)(p:Nat){v:Nat}(hv:v<=2199023255552)(h2:yo v):Am.ok { S with H:=(S.H.AK p v).1 }:=by
 unfold Hp.AK;split
 ·exact hk
 ·rename_i ob hp;exact Am.Dw hk hp (Ob.D9 (hk.H.Eg hp) v hv) rfl h2
def qlq {l:List (Nat×Ob×Option Nat)}{p q:Nat}(h:∀ x ∈ l,yo x.2.1.second):∀ x ∈ qx l p q,yo x.2.1.second:=by
 intro x hx;unfold qx at hx;obtain⟨z,hz,rfl⟩:=Qt.1 hx;split
 ·exact h z hz
 ·exact h z hz
def CC (H:Hp):Prop:=(∀ x ∈ H.cur,yo x.2.second)/\∀ x ∈ H.old,yo x.2.1.second
def Am.ok.E1 {S:Am}(hk:S.ok):CC S.H:=⟨hk.sc,hk.so⟩
def CC.AG {H:Hp}(h:CC H)(p:Nat):CC (H.AG p).1:=by
 unfold Hp.AG;split
 ·exact h
 ·exact h
 ·rename_i ob hp
  refine⟨fun x hx=>?_,qlq h.2⟩;rcases Qs.1 (show x ∈ H.cur++_ from hx) with hx|hx
  ·exact h.1 x hx
  ·rw[Zb.1 hx];exact h.2 _ (ke hp)
def CC.Ay:∀ (l:List Nat){H:Hp},CC H->CC (H.Ay l).1
 | [],_,h=>h
 | p::l,_,h=>CC.Ay l (h.AG p)
def Am.JO {S:Am}(hk:S.ok)(p:Nat):Am.ok { S with H:=(S.H.AG p).1 }:=by
 have h:=yc (H:=S.H) p;exact Am.Mn hk (Hp.Et hk.H p) (hk.E1.AG p).1 (hk.E1.AG p).2 (by rw[h.2.2.2.2.2.2.1,h.2.2.2.2.1];exact hk.nx) h.2.2.1
def Am.Ec {S:Am}(hk:S.ok)(p i:Nat):Am.ok { S with H:=(S.H.AY p i).1 }:=by
 unfold Hp.AY;split
 ·exact hk
 ·rename_i ob hp
  split
  ·exact hk
  ·rename_i x hx
   split
   ·have h1:=Am.JO hk x
    have ho:=hk.H.Eg hp;exact Am.Dw h1 (px hp) (Ob.Cv ho i _ (de hk.H.ok (ho.ptr x (Qe hx)))) rfl (hk.sc _ (zk hp))
   ·exact hk
def Am.JM {S:Am}(hk:S.ok){s:BR}(hs:s.ok)(hr:S.H.roomy s=true):Am.ok { S with H:=S.H.lay s }:=by
 refine Am.Mn hk (Hp.Jo hk.H hs hr) (fun x hx=>?_) hk.so ?_ rfl
 ·rcases Qs.1 (show x ∈ S.H.cur++_ from hx) with hx|hx
  ·exact hk.sc x hx
  ·rw[Zb.1 hx];intro h;simp[Ob.new]at h
 ·show S.next+List.length (if s.final then _ else _)<=S.H.Ap+1
  have:=hk.nx;split<;>simp<;>omega
def Am.Fl {S:Am}(hk:S.ok){s:BR}(hs:s.ok):Am.ok { S with H:=(S.H.AQ s).1 }:=by
 unfold Hp.AQ;split
 ·rename_i hr;exact Am.JM hk hs hr
 ·exact hk
section
variable {w w' : Aa} {o o' : Own} {y : Bj} {S : Am} {x : Tx} {i : Nat}
def AN.Ga {l:Bo}{H H':Hp}{vc vo vw vf:Ac}{f:Nat->Nat}(hh:AN w o l H vc vo vw vf f)(h':∃ f',AN w' o l H' vc vo vw vf f')(hw:Wr l.wd w w'):BX w' o l H'/\Stp (zd l) o o w w':=by
 obtain⟨f',h'⟩:=h';exact⟨⟨vc,vo,vw,vf,f',h'⟩,Stp.Cg hw (by rw[hh.ow];exact⟨rfl,by simp⟩)⟩
def Av.D1 (h:Av w o y S){H':Hp}(hh:BX w' o y.l H')(hs:Stp (zd y.l) o o w w'):BK y { S with H:=H' } o w w':=⟨o,h.heap hh hs,hs.mono fun _=>RN⟩
def Nk (h:Av w o y S)(hk:S.ok)(p j:Nat) :
  Ab AId 76 #[ptr y.l.h,p,j] w fun e w'=>e=O (Ak #[I Z (S.H.Cp p j).1,I Z ((S.H.Cp p j).2:Nat)])/\Ae w.1.size w w':=by
 obtain⟨vc,vo,vw,vf,f,hh⟩:=h.hp;unfold Hp.Cp
 cases hp:lk S.H.cur p with
 | none=>exact LX hh hk.H.ok hp j
 | some ob =>
  simp only
  cases hn:ob.nums[j]? with
  | none=>exact Jh hh hk.H.ok hp j (by have:=aa.1 hn;rw[(hk.H.Eg hp).ln]at this;exact this)
  | some n=>exact LW hh hk.H.ok hp j n hn
def Kh (h:Av w o y S)(hk:S.ok)(p:Nat) :
  Ab AId 70 #[ptr y.l.h,p] w fun e w'=>e=O (Ak #[I Z ((S.H.Dc p).1:Nat),I Z ((S.H.Dc p).2:Nat)])/\Ae w.1.size w w':=by
 obtain⟨vc,vo,vw,vf,f,hh⟩:=h.hp;unfold Hp.Dc
 cases hp:lk S.H.cur p with
 | none=>exact Vo hh hk.H.ok hp
 | some ob=>exact Vr hh hk.H.ok hp
def TD (h:Av w o y S)(hk:S.ok)(p:Nat) :
  Ab AId 141 #[ptr y.l.h,p] w fun e w'=>∃ er:Int,e=O (Ak #[.int .u64 (S.H.sec p:Nat),er])/\Ae w.1.size w w':=by
 obtain⟨vc,vo,vw,vf,f,hh⟩:=h.hp;unfold Hp.sec
 cases hp:lk S.H.cur p with
 | none=>exact (qkh hh hk.H.ok hp).mono fun _ _⟨a,b⟩=>⟨70,a,b⟩
 | some ob=>exact (qmn hh hk.H.ok hp).mono fun _ _⟨a,b⟩=>⟨0,a,b⟩
def Q5 (h:Av w o y S)(hk:S.ok)(p:Nat) :
  Ab AId 61 #[ptr y.l.h,p] w fun e w'=>e=O (.bool (lk S.H.cur p).isSome)/\Ae w.1.size w w':=by
 obtain⟨vc,vo,vw,vf,f,hh⟩:=h.hp;exact RF hh hk.H.ok p p rfl
def WS (h:Av w o y S)(hk:S.ok)(p j:Nat)(n:Int)(hn:-9223372036854775808<=n/\n<=9223372036854775807) :
  Ab AId 110 #[ptr y.l.h,p,j,n] w fun e w'=>e=O (I Z ((S.H.Bv p j n).2:Nat))/\BK y { S with H:=(S.H.Bv p j n).1 } o w w':=by
 obtain⟨vc,vo,vw,vf,f,hh⟩:=h.hp;unfold Hp.Bv
 cases hp:lk S.H.cur p with
 | none=>exact (qkt hh hk.H.ok hp j n).mono fun _ _⟨a,b⟩=>⟨a,h.EC b⟩
 | some ob =>
  simp only;by_cases hj:ob.AM.d<=j
  ·rw[if_pos hj]
   exact (qjf hh hk.H.ok hp j n hj).mono fun _ _⟨a,b⟩=>⟨a,h.EC b⟩
  ·rw[if_neg hj]
   refine (qmp hh hk.H.ok hp j n (by omega) hn).mono ?_
   rintro e w'⟨rfl,_,h',hw⟩;obtain⟨a1,a2⟩:=hh.Ga h' hw;exact⟨rfl,h.D1 a1 a2⟩
def m9 (h:Av w o y S)(hk:S.ok)(p:Nat)(b:Bool) :
  Ab AId 121 #[ptr y.l.h,p,.bool b] w fun e w'=>e=O (I Z ((S.H.AX p b).2:Nat))/\BK y { S with H:=(S.H.AX p b).1 } o w w':=by
 obtain⟨vc,vo,vw,vf,f,hh⟩:=h.hp;unfold Hp.AX
 cases hp:lk S.H.cur p with
 | none=>exact (YH hh hk.H.ok hp b).mono fun _ _⟨a,b⟩=>⟨a,h.EC b⟩
 | some ob =>
  refine (YD hh hk.H.ok hp b).mono ?_;rintro e w'⟨rfl,_,h',hw⟩;obtain⟨a1,a2⟩:=hh.Ga h' hw;exact⟨rfl,h.D1 a1 a2⟩
def U0 (h:Av w o y S)(hk:S.ok)(p v:Nat)(hv:v<=2199023255552) :
  Ab AId 145 #[ptr y.l.h,p,.int .u64 v] w fun e w'=>e=O (I Z ((S.H.AK p v).2:Nat))/\BK y { S with H:=(S.H.AK p v).1 } o w w':=by
 obtain⟨vc,vo,vw,vf,f,hh⟩:=h.hp;unfold Hp.AK
 cases hp:lk S.H.cur p with
 | none=>exact (rj hh hk.H.ok hp v).mono fun _ _⟨a,b⟩=>⟨a,h.EC b⟩
 | some ob =>
  refine (rp hh hk.H.ok hp v hv).mono ?_;rintro e w'⟨rfl,_,h',hw⟩;obtain⟨a1,a2⟩:=hh.Ga h' hw;exact⟨rfl,h.D1 a1 a2⟩
def MF (h:Av w o y S)(hk:S.ok)(s:BR)(hs:s.ok) :
  Ab AId 167 #[ptr y.l.h,kg s] w fun e w'=>e=O (Ak #[I Z ((S.H.AQ s).2.1:Nat),I Z ((S.H.AQ s).2.2:Nat)])/\BK y { S with H:=(S.H.AQ s).1 } o w w':=by
 obtain⟨vc,vo,vw,vf,f,hh⟩:=h.hp;refine (qpd hh hk.H s hs).mono ?_
 rintro e w' ⟨rfl,bX,vo',fO,eZ,f',o',hh',hs⟩
 exact⟨rfl,o',h.heap ⟨_,_,_,_,_,hh'⟩ hs,hs.mono fun _=>RN⟩
def Tp (h:Av w o y S)(hk:S.ok)(hi:i<S.Au.length) :
  Ab AId 52 #[ptr y.sb,i] w fun e w'=>e=O (ptr (y.xb i))/\w=w':=by
 obtain⟨g,cap,e,hc,hcap⟩:=h.Ek i hi;obtain⟨vq,vl,vm,hb,_⟩:=h.A2;unfold qk at hb;rw[e]at hb;have c:=hb.cell;have hI:(i:Int)<(S.Au.length:Int):=by omega
 have h8:=hk.t8;clear h hk;go_in;go_wp2_with fail;go_ret;exact⟨rfl,rfl⟩
def Fb.cell {id xb lb:Nat}(h:Fb w o id i xb lb x):∃ vt,∀ j,w.cell? ⟨xb,j,none⟩=(#[i,.bool x.live,x.start,x.seen,ptr lb,vt]:Array Ac)[j]?:=by
 obtain⟨vt,hb,_⟩:=h.A2;exact⟨vt,hb.cell⟩
def xy (h:Av w o y S)(hk:S.ok)(hx:S.Au[i]?=some x) :
  Ab AId 72 #[ptr y.sb,i] w fun e w'=>e=O (if x.live then ptr (y.xb i) else Ah none)/\w=w':=by
 have HT:=Qa (Tp h hk (Qc.1 hx).1);obtain⟨vt,c⟩:=(h.Au i x hx).cell;clear h hk hx
 cases hl:x.live
 all_goals
  rw[hl]at c;go_in;go_wp2_with fail;refine HT.o.mono ?_;rintro e w1⟨rfl,rfl⟩;go_wp2_with fail;go_ret;exact⟨rfl,rfl⟩
def L6 (h:Av w o y S)(hk:S.ok)(hx:S.Au[i]?=some x) :
  Ab AId 21 #[ptr y.sb,i] w fun e w'=>e=O (Ak #[I Z (if x.live then (x.start:Int) else 0),.bool x.live])/\w=w':=by
 have HT:=Qa (xy h hk hx);obtain⟨vt,c⟩:=(h.Au i x hx).cell;clear h hk hx
 cases hl:x.live
 all_goals
  rw[hl]at c HT;try simp only[if_true,if_false,Aj]at HT ⊢
  go_in;go_wp2_with fail;refine HT.o.mono ?_;rintro e w1⟨rfl,rfl⟩;go_wp2_with fail;go_ret2;exact⟨rfl,rfl⟩
def Pf (h:Av w o y S) :
  Ab AId 23 #[ptr y.sb] w fun e w'=>e=O (I Z S.now)/\w=w':=by
 have HC:=Qa (Ub h.ck);obtain⟨vq,vl,vm,hb,_⟩:=h.A2;unfold qk at hb;have c:=hb.cell;clear h;go_in;go_wp2_with fail;refine HC.o.mono ?_
 rintro e w1⟨rfl,rfl⟩
 go_wp2_with fail;go_ret;exact⟨rfl,rfl⟩
def Vp (h:Av w o y S)(hk:S.ok)(p:Nat) :
  Ab AId 155 #[ptr y.sb,p] w fun e w'=>e=O (Ak #[I Z ((S.H.Dc p).1:Nat),I Z ((S.H.Dc p).2:Nat)])/\Ae w.1.size w w':=by
 have HC:=Qa (Kh h hk p);obtain⟨vq,vl,vm,hb,_⟩:=h.A2;unfold qk at hb;have c:=hb.cell;generalize (((S.H.Dc p).1:Nat):Int)=r at *;generalize (((S.H.Dc p).2:Nat):Int)=q at *;clear h hk;go_in;go_wp2_with fail;refine HC.o.mono ?_
 rintro e w1⟨rfl,hb1⟩
 go_wp2_with fail;go_ret2;exact⟨rfl,hb1⟩
def SX (v:Nat)(hv:v<=2199023255552)(hs:yo v)(w:Aa):Ab AId 142 #[.int .u64 v] w fun e w' =>
  e=O (Ak #[I Z (if v%2=1 then ((v/2:Nat):Int) else 0),I Z (if v%2=1 then 0 else ((v/2:Nat):Int)),.bool (decide (v%2=1))])/\w=w':=by
 by_cases h:v%2=1
 ·have h8:=hs h
  have e1:(v:Int)=2*((v/2:Nat):Int)+1:=by omega
  rw[e1,if_pos h,if_pos h,decide_eq_true h];exact ql5 _ ⟨by omega,by omega⟩ w
 ·have e1:(v:Int)=2*((v/2:Nat):Int):=by omega
  rw[e1,if_neg h,if_neg h,decide_eq_false h];exact qlo _ ⟨by omega,by omega⟩ w
def TN (h:Av w o y S)(hk:S.ok)(hx:S.Au[i]?=some x)(p:Nat) :
  Ab AId 82 #[ptr y.sb,ptr (y.xb i),p] w fun e w'=>e=O (.bool (vy i x.start (S.H.sec p)))/\Ae w.1.size w w':=by
 have HC:=Qa (TD h hk p);obtain⟨hs,hv⟩:=hk.sec p;have HO:=Qa (fun w=>SX (S.H.sec p) hv hs w)
 obtain⟨vq,vl,vm,hb,_⟩:=h.A2;unfold qk at hb;have c:=hb.cell;obtain⟨vt,jx,_⟩:=(h.Au i x hx).A2;unfold zg at jx;unfold vy;generalize S.H.sec p=v at *;clear h hk hx hs hv;by_cases hv:v%2=1
 ·rw[if_pos hv]
  rw[if_pos hv,if_pos hv,decide_eq_true hv]at HO;have hd:decide (v/2≠i)=decide ((((v/2:Nat):Int))≠(i:Int)):=by
   rw[ai];simp only[decide_eq_true_eq];omega
  rw[hd];generalize ((v/2:Nat):Int)=q at *;clear hv hd;go_in;go_wp2_with fail;refine HC.o.mono ?_;rintro e w1⟨er,rfl,hb1⟩;have cx:=(jx.below hb1 jx.lt).cell;go_wp2_with fail;refine (HO.o _).mono ?_;rintro e w2⟨rfl,rfl⟩;go_wp2_with fail;go_ret;exact⟨by simp[bne,BEq.beq],hb1⟩
 ·rw[if_neg hv]
  rw[if_neg hv,if_neg hv,decide_eq_false hv]at HO;have hd:decide (x.start<v/2)=decide ((x.start:Int)<(((v/2:Nat):Int))):=by
   rw[ai];simp only[decide_eq_true_eq];omega
  rw[hd];generalize ((v/2:Nat):Int)=q at *;clear hv hd;go_in;go_wp2_with fail;refine HC.o.mono ?_;rintro e w1⟨er,rfl,hb1⟩;have cx:=(jx.below hb1 jx.lt).cell;go_wp2_with fail;refine (HO.o _).mono ?_;rintro e w2⟨rfl,rfl⟩;go_wp2_with fail;go_ret;exact⟨rfl,hb1⟩
def JV (h:Av w o y S)(hk:S.ok)(hx:S.Au[i]?=some x)(p:Nat) :
  Ab AId 169 #[ptr y.sb,ptr (y.xb i),p] w fun e w'=>e=O (Ak #[])/\BK y { S with H:=(S.H.AK p (2*i+1)).1 } o w w':=by
 have h8:=hk.t8;have hi:=(Qc.1 hx).1;have HC:=U0 h hk p (2*i+1) (by omega)
 have HO:=Qa (fun w=>TZ i ⟨by omega,by omega⟩ w)
 have ei:((2*i+1:Nat):Int)=2*(i:Int)+1:=by omega
 rw[ei]at HC;generalize (S.H.AK p (2*i+1))=r at *;replace HC:=Qa HC;generalize 2*(i:Int)+1=q at HC HO;obtain⟨vq,vl,vm,hb,_⟩:=h.A2;unfold qk at hb;have c:=hb.cell;obtain⟨vt,cx⟩:=(h.Au i x hx).cell;clear h hk hx hi h8 ei;go_in;go_wp2_with fail;refine (HO.o _).mono ?_
 rintro e w1 ⟨rfl,rfl⟩
 go_wp2_with fail;refine HC.o.mono ?_
 rintro e w2 ⟨rfl,hl⟩
 go_wp2_with fail;go_end0;exact⟨rfl,hl⟩
def qme (h:Av w o y S)(hk:S.ok)(p v:Nat)(hv:v<=1099511627776) :
  Ab AId 84 #[ptr y.sb,p,v] w fun e w'=>e=O (Ak #[])/\BK y { S with H:=(S.H.AK p (2*v)).1 } o w w':=by
 have HC:=U0 h hk p (2*v) (by omega)
 have HO:=Qa (fun w=>RH v ⟨by omega,by omega⟩ w)
 have ei:((2*v:Nat):Int)=2*(v:Int):=by omega
 rw[ei]at HC;generalize (S.H.AK p (2*v))=r at *;replace HC:=Qa HC;generalize 2*(v:Int)=q at HC HO;obtain⟨vq,vl,vm,hb,_⟩:=h.A2;unfold qk at hb;have c:=hb.cell;clear h hk hv ei;go_in;go_wp2_with fail;refine (HO.o _).mono ?_
 rintro e w1 ⟨rfl,rfl⟩
 go_wp2_with fail;refine HC.o.mono ?_
 rintro e w2 ⟨rfl,hl⟩
 go_wp2_with fail;go_end0;exact⟨rfl,hl⟩
def Tx.ended (x:Tx):Tx:={ x with live:=false,log:={ x.log with reads:=[],keeps:=[],holds:=[],Az:=[] },AZ:=[] }
def Q8 (h:Av w o y S)(hx:S.Au[i]?=some x) :
  Ab AId 80 #[ptr y.sb,ptr (y.xb i)] w fun e w'=>e=O (Ak #[])/\BK y (S.tx i x.ended) o w w':=by
 have ht:=h.Au i x hx;obtain⟨vr,vk,vh,vu,hl⟩:=ht.log;have HR:=Qa (qo8 hl);have HI:=Qa h;obtain⟨vt,jx,hrow⟩:=ht.A2;have rH:=Qa hrow;unfold zg at jx;have c:=jx.cell;have ob:=ht.ob;clear h hl ht hx hrow;go_in;go_wp2_with fail;refine HR.o.mono ?_
 rintro e w1 ⟨rfl,hl1,hs1⟩
 have j1:=jx.Ar hs1 (by rw[ob];simp)
 clear c jx;have c:=j1.cell;have z:=j1.free;have s:=j1.lt;go_wp2_with fail;go_end0;have hs2:Stp (uo y i) o o w1 ((w1.setCell ⟨y.xb i,5,none⟩ (Ai none 0 0)).setCell ⟨y.xb i,1,none⟩ (.bool false)):=
  ((Stp.refl _ o w1).setCell (by show uo y i (o (y.xb i));rw[ob];exact⟨rfl,by simp,by simp⟩) _).setCell (by show uo y i (o (y.xb i));rw[ob];exact⟨rfl,by simp,by simp⟩) _
 have hs3:Stp (fun t=>t=(y.l.id,16+8*i)) o o w1 ((w1.setCell ⟨y.xb i,5,none⟩ (Ai none 0 0)).setCell ⟨y.xb i,1,none⟩ (.bool false)):=
  ((Stp.refl _ o w1).setCell (by show o (y.xb i)=_;exact ob) _).setCell (by show o (y.xb i)=_;exact ob) _
 have hs:Stp (uo y i) o o w _:=(hs1.mono (by rintro _ rfl;exact⟨rfl,by simp,by simp⟩)).trans hs2
 exact⟨rfl,o,HI.o.tx ⟨⟨_,(j1.set 5 _).set 1 _,Row.nil _ _ _ _ _⟩,⟨_,_,_,_,hl1.Ar hs3 fun j hj=>by simp;omega⟩,ob⟩ hs,hs.mono fun _=>Ru⟩
end
def yh {w:Aa}{B:Nat}{cs:Array Ac}{t:TypeId}(h:An w B cs t):∀ j u,cs.toList[j]?=some u->w.cell? ((⟨B,0,none⟩:Addr).add j)=some u:=fun j u hu=>by
 have hadd:(⟨B,0,none⟩:Addr).add j=⟨B,j,none⟩:=by unfold Addr.add;split<;>simp_all
 rw[hadd,h.cell];simpa using hu
def Xu {n b:Nat}(h:n<=4096)(hb:b<=64):n+1<=maxLen/\(n+1)*b<=140737488355328:=by
 constructor
 ·simp only[maxLen];omega
 ·have:(n+1)*b<=4097*64:=Nat.mul_le_mul (by omega) hb
  omega
abbrev Uw (u:Un):Ac:=Al #[nv u.kind,nv u.pos,nv u.i,u.old]
section
variable {w : Aa} {o : Own} {id k b : Nat} {L : Lg} {vr vk vh vu : Ac}
def Yi (h:BS w o id k b L vr vk vh vu)(u:Un)(hm:L.mu<=L.Az.length) :
  Ab AId 120 #[Ah (some ⟨b,0,none⟩),Uw u] w fun e w'=>e=O (.bool false)/\Ae w.1.size w w':=by
 have j:=h.A2;have c:=h.A2.cell;have s:=h.A2.lt;obtain⟨pa,cp,rfl⟩:=h.ru.A5;have ou:(L.mu:Int)<=(L.Az.length:Int):=by omega
 clear h;go_in;go_upto_region 1 with fail;go_quiet (fail);go_wp2_with fail;go_ret;exact⟨rfl,zi (qa (qc w) _) _⟩
def Yt (h:BS w o id k b L vr vk vh vu) (hk:L.ok) (u:Un) (hm:L.Az.length<L.mu) :
  Ab AId 120 #[Ah (some ⟨b,0,none⟩),Uw u] w fun e w'=>e=O (.bool true) /\
   ∃ vu' o',BS w' o' id k b { L with Az:=L.Az++[u] } vr vk vh vu'/\Stp (fun t=>t=(id,k)\/t=(id,k+4)) o o' w w':=by
 have HI:=Qa h;have j:=h.A2;have c:=h.A2.cell;have s:=h.A2.lt;obtain⟨pa,cp,rfl⟩:=h.ru.A5;have ou:(L.Az.length:Int)<(L.mu:Int):=by omega
 have hw:=Qa (Xu (n:=L.Az.length) (b:=32) (by have:=hk.u;have:=hk.mu;omega) (by omega))
 obtain⟨iU,hi,hsI,cZ,bZ⟩:=VQ;have hu64:=underlying212;clear h hk hm;go_in;go_upto_region 1 with fail;go_quiet (fail);go_upto_region 3 with fail;obtain⟨W,hW⟩:=Ja0 ((w.alloc (AIe #[nv u.kind,nv u.pos,nv u.i,u.old] 175)).drewN nq);rw[<-hW];have hbW:Ae w.1.size w W:=by rw[hW];exact zi (qa (qc w) _) _
 have jB:An W w.1.size #[nv u.kind,nv u.pos,nv u.i,u.old] 175:=by rw[hW];exact (An.new w _ _).drewN _
 have jL:=j.below hbW j.lt;clear hW c s;have cL:=jL.cell;have sL:=jL.lt;have cB:=jB.cell;have sB:=jB.lt;have rn:=(HI.o.ru.below hbW).below (qa (qe (qc W)) (AIe #[nv u.kind,nv u.pos,nv u.i,u.old] 175));have jn:=An.new W.drew #[nv u.kind,nv u.pos,nv u.i,u.old] 175;have hone:=Ve [u];have hkeep:=fun (w1:Aa) (o1:Own) (hst:Stp (fun t=>t=(id,k+4)) o o1 (W.drew.alloc (AIe #[nv u.kind,nv u.pos,nv u.i,u.old] 175)) w1)=>(An.alloc (qi jL) (AIe #[nv u.kind,nv u.pos,nv u.i,u.old] 175)).Ar hst (by rw[HI.o.ob];simp)
 have hfin:=Qa (fun (w1:Aa) (o1:Own) (pa':Option Addr) (cp':Nat) (hown:Row w1 o1 (id,k+4) 175 4 (.slice pa' (L.Az.length+1) cp') (L.Az.length+1) (qz L.Az++[nv u.kind,nv u.pos,nv u.i,I Z u.old])) (hst:Stp (fun t=>t=(id,k+4)) o o1 (W.drew.alloc (AIe #[nv u.kind,nv u.pos,nv u.i,u.old] 175)) w1) =>
  show ∃ vu' o',BS (w1.setCell ⟨b,5,none⟩ (.slice pa' (L.Az.length+1) cp')) o' id k b { L with Az:=L.Az++[u] } vr vk vh vu'/\Stp (fun t=>t=(id,k)\/t=(id,k+4)) o o' w (w1.setCell ⟨b,5,none⟩ (.slice pa' (L.Az.length+1) cp')) from by
   have h:=HI.o;have hlt:b<(W.drew.alloc (AIe #[nv u.kind,nv u.pos,nv u.i,u.old] 175)).1.size:=(An.alloc (qi jL) _).lt;have ho1:o1 b=(id,k):=by rw[hst.tags b hlt];exact h.ob
   have k1:Stp (fun t=>t=(id,k)) o1 o1 w1 (w1.setCell ⟨b,5,none⟩ (.slice pa' (L.Az.length+1) cp')):=(Stp.refl _ o1 w1).setCell (by simpa using ho1) _
   have S:Stp (fun t=>t=(id,k)\/t=(id,k+4)) o o1 w (w1.setCell ⟨b,5,none⟩ (.slice pa' (L.Az.length+1) cp')):=
    (Stp.of_below (hbW.trans ((qa (qe (qc W)) _).mono hbW.size))).trans ((hst.mono fun _ e=>Or.inr e).trans (k1.mono fun _ e=>Or.inl e))
   refine⟨_,o1,⟨(hkeep _ _ hst).set 5 _,h.rr.Ar S (by simp),h.rk.Ar S (by simp),h.rh.Ar S (by simp),?_,ho1⟩,S⟩
   have hr:=hown.Ar k1 (by simp)
   show Row _ o1 (id,k+4) 175 4 _ (L.Az++[u]).length (qz (L.Az++[u]));rw[qjz];simpa using hr)
 go_region_law ((refine zj _ (by rfl) _ _ _ (by rfl) 175 iU _ 4 32 hu64 hi bZ hsI cZ (by rfl) (by decide) o (id,k+4) _ _ _ (by rfl) rn ⟨W.1.size,0,none⟩ 1 1 [nv u.kind,nv u.pos,nv u.i,I Z u.old] (by rfl) (by rfl) (yh jn) hone hw.o.1 hw.o.2 ?_;intro v' w1 hown hst;obtain⟨pa',cp',rfl⟩:=hown.A5;have jX:=hkeep _ _ hst;have cX:=jX.cell;have zX:=jX.free;have sX:=jX.lt))
 all_goals
  go_wp2_with fail;go_ret;exact⟨rfl,hfin.o _ _ _ _ hown hst⟩
end
section
variable {w : Aa} {o : Own} {id k b : Nat} {L : Lg} {vr vk vh vu : Ac}
def Row.Fc {w:Aa}{o:Own}{t:Tag}{l:List (Nat×Nat)}{g n cap:Nat}(h:Row w o t 131 2 (Ai (some ⟨g,0,none⟩) n cap) n (qg l))(i:Nat)(x:Nat×Nat)(hx:l[i]?=some x) :
  w.cell? ⟨g,i*2,none⟩=some (nv x.1)/\w.cell? ⟨g,i*2+1,none⟩=some (nv x.2):=by
 have h2:=yx l i x hx;have f:=fun j u hu=>h.own.cells (g:=g) rfl j u hu
 have e:∀ j,(⟨g,0,none⟩:Addr).add j=⟨g,j,none⟩:=fun j=>by unfold Addr.add;split<;>simp_all
 have a1:=f _ _ h2.1;have a2:=f _ _ h2.2;rw[e]at a1 a2;rw[Nat.mul_comm i 2];exact⟨a1,a2⟩
def Yj (h:BS w o id k b L vr vk vh vu) (hk:L.ok) (p v:Nat) (hp:∀ x ∈ L.holds,x.1≠p) (hm:L.holds.length<L.mu) :
  Ab AId 168 #[Ah (some ⟨b,0,none⟩),Al #[p,v]] w fun e w'=>e=O (.bool true) /\
   ∃ vh' o',BS w' o' id k b { L with holds:=L.holds++[(p,v)] } vr vk vh' vu/\Stp (fun t=>t=(id,k)\/t=(id,k+3)) o o' w w':=by
 have HI:=Qa h;have HP:=Qa hp;have j:=h.A2;have c:=h.A2.cell;have s:=h.A2.lt;obtain⟨pa,cp,rfl⟩:=h.rh.A5;have ou:(L.holds.length:Int)<(L.mu:Int):=by omega
 have hlen:=Qa (show L.holds.length<=200 by have:=hk.h;have:=hk.mu;omega)
 have hw:=Qa (Xu (n:=L.holds.length) (b:=16) (by have:=hk.h;have:=hk.mu;omega) (by omega))
 obtain⟨iU,hi,hsI,cZ,bZ⟩:=Ws;have hu64:=underlying126;clear h hk hm hp;go_in;go_wp2_with fail;go_loopw [14] (fun ix wr=>∃ i:Nat,ix=I Z i/\i<=L.holds.length/\Ae w.1.size w wr/\An wr w.1.size #[p,v] 131) (fun ix _=>L.holds.length-(intOf ix).toNat)
 case atStart=>exact⟨0,rfl,by omega,qa (qc w) _,An.new w _ _⟩
 case round =>
  obtain⟨i,rfl,hil,hbr,jB⟩:=hrel;clear c s;have jL:=j.below hbr j.lt;have cL:=jL.cell;have sL:=jL.lt;have cB:=jB.cell;have sB:=jB.lt;have hR:=HI.o.rh.below hbr;by_cases hlt:i<L.holds.length
  ·obtain⟨x,hx⟩:∃ x,L.holds[i]?=some x:=⟨_,Qb hlt⟩
   have hne:(x.1:Int)≠(p:Int):=by have:=HP.o x (Qe hx);omega
   rcases hR.own.2 with ⟨e1,e2⟩|⟨g,cap,cur,e1,_,hg,hn,hc,_⟩
   ·omega
   ·injection e1 with e1 _ e2
    subst e1 e2;obtain⟨c0,c1⟩:=hR.Fc i x hx;have sg:g<wr.1.size:=(Qf.1 hg).1;have hI:(i:Int)<(L.holds.length:Int):=by omega
    have hI2:(i:Int)<200:=by have:=hlen.o;omega
    unfold nv at c0 c1;clear hg hR hx hc;go_wp2_with fail;go_roundw
    case rel=>exact⟨i+1,by simp,by omega,qa hbr _,jB.alloc _⟩
    case measure=>simp[intOf];omega
  ·obtain rfl:i=L.holds.length:=by omega
   go_upto_region 9 with fail;go_quiet (fail);go_upto_region 11 with fail;obtain⟨W,hW⟩:=Ja0 (wr.drewN nq);rw[<-hW];have hbW:Ae w.1.size w W:=by rw[hW];exact zi hbr _
   have jB:An W w.1.size #[p,v] 131:=by rw[hW];exact jB.drewN _
   have jL:=j.below hbW j.lt;clear hW hR cL sL cB sB;have cL:=jL.cell;have sL:=jL.lt;have cB:=jB.cell;have sB:=jB.lt;have rn:=(HI.o.rh.below hbW).below (qa (qe (qc W)) (AIe #[p,v] 131));have jn:=An.new W.drew #[p,v] 131;have hone:=uk [(p,v)];have hkeep:=fun (w1:Aa) (o1:Own) (hst:Stp (fun t=>t=(id,k+3)) o o1 (W.drew.alloc (AIe #[p,v] 131)) w1)=>(An.alloc (qi jL) (AIe #[p,v] 131)).Ar hst (by rw[HI.o.ob];simp)
   have hfin:=Qa (fun (w1:Aa) (o1:Own) (pa':Option Addr) (cp':Nat) (hown:Row w1 o1 (id,k+3) 131 2 (.slice pa' (L.holds.length+1) cp') (L.holds.length+1) (qg L.holds++[I Z p,I Z v])) (hst:Stp (fun t=>t=(id,k+3)) o o1 (W.drew.alloc (AIe #[p,v] 131)) w1) =>
    show ∃ vh' o',BS (w1.setCell ⟨b,4,none⟩ (.slice pa' (L.holds.length+1) cp')) o' id k b { L with holds:=L.holds++[(p,v)] } vr vk vh' vu/\Stp (fun t=>t=(id,k)\/t=(id,k+3)) o o' w (w1.setCell ⟨b,4,none⟩ (.slice pa' (L.holds.length+1) cp')) from by
     have h:=HI.o;have hlt:b<(W.drew.alloc (AIe #[p,v] 131)).1.size:=(An.alloc (qi jL) _).lt;have ho1:o1 b=(id,k):=by rw[hst.tags b hlt];exact h.ob
     have k1:Stp (fun t=>t=(id,k)) o1 o1 w1 (w1.setCell ⟨b,4,none⟩ (.slice pa' (L.holds.length+1) cp')):=(Stp.refl _ o1 w1).setCell (by simpa using ho1) _
     have S:Stp (fun t=>t=(id,k)\/t=(id,k+3)) o o1 w (w1.setCell ⟨b,4,none⟩ (.slice pa' (L.holds.length+1) cp')):=
      (Stp.of_below (hbW.trans ((qa (qe (qc W)) _).mono hbW.size))).trans ((hst.mono fun _ e=>Or.inr e).trans (k1.mono fun _ e=>Or.inl e))
     refine⟨_,o1,⟨(hkeep _ _ hst).set 4 _,h.rr.Ar S (by simp),h.rk.Ar S (by simp),?_,h.ru.Ar S (by simp),ho1⟩,S⟩
     have hr:=hown.Ar k1 (by simp)
     show Row _ o1 (id,k+3) 131 2 _ (L.holds++[(p,v)]).length (qg (L.holds++[(p,v)]));rw[du];simpa [nv] using hr)
   go_region_law ((refine zj _ (by rfl) _ _ _ (by rfl) 131 iU _ 2 16 hu64 hi bZ hsI cZ (by rfl) (by decide) o (id,k+3) _ _ _ (by rfl) rn ⟨W.1.size,0,none⟩ 1 1 [I Z p,I Z v] (by rfl) (by rfl) (yh jn) hone hw.o.1 hw.o.2 ?_;intro v' w1 hown hst;obtain⟨pa',cp',rfl⟩:=hown.A5;have jX:=hkeep _ _ hst;have cX:=jX.cell;have zX:=jX.free;have sX:=jX.lt))
   all_goals
    go_wp2_with fail;go_ret;exact⟨rfl,hfin.o _ _ _ _ hown hst⟩
def rx (h:BS w o id k b L vr vk vh vu)(hk:L.ok)(p v:Nat)(hp:∀ x ∈ L.holds,x.1≠p)(hm:L.mu<=L.holds.length) :
  Ab AId 168 #[Ah (some ⟨b,0,none⟩),Al #[p,v]] w fun e w'=>e=O (.bool false)/\Ae w.1.size w w':=by
 have HI:=Qa h;have HP:=Qa hp;have j:=h.A2;have c:=h.A2.cell;have s:=h.A2.lt;obtain⟨pa,cp,rfl⟩:=h.rh.A5;have ou:(L.mu:Int)<=(L.holds.length:Int):=by omega
 have hlen:=Qa (show L.holds.length<=200 by have:=hk.h;have:=hk.mu;omega)
 clear h hk hm hp;go_in;go_wp2_with fail;go_loopw [14](fun ix wr=>∃ i:Nat,ix=I Z i/\i<=L.holds.length/\Ae w.1.size w wr/\An wr w.1.size #[p,v] 131)(fun ix _=>L.holds.length-(intOf ix).toNat)
 case atStart=>exact⟨0,rfl,by omega,qa (qc w) _,An.new w _ _⟩
 case round =>
  obtain⟨i,rfl,hil,hbr,jB⟩:=hrel;clear c s;have jL:=j.below hbr j.lt;have cL:=jL.cell;have sL:=jL.lt;have cB:=jB.cell;have sB:=jB.lt;have hR:=HI.o.rh.below hbr;by_cases hlt:i<L.holds.length
  ·obtain⟨x,hx⟩:∃ x,L.holds[i]?=some x:=⟨_,Qb hlt⟩
   have hne:(x.1:Int)≠(p:Int):=by have:=HP.o x (Qe hx);omega
   rcases hR.own.2 with ⟨e1,e2⟩|⟨g,cap,cur,e1,_,hg,hn,hc,_⟩
   ·omega
   ·injection e1 with e1 _ e2
    subst e1 e2;obtain⟨c0,c1⟩:=hR.Fc i x hx;have sg:g<wr.1.size:=(Qf.1 hg).1;have hI:(i:Int)<(L.holds.length:Int):=by omega
    have hI2:(i:Int)<200:=by have:=hlen.o;omega
    unfold nv at c0 c1;clear hg hR hx hc;go_wp2_with fail;go_roundw
    case rel=>exact⟨i+1,by simp,by omega,qa hbr _,jB.alloc _⟩
    case measure=>simp[intOf];omega
  ·obtain rfl:i=L.holds.length:=by omega
   go_upto_region 9 with fail;go_quiet (fail);go_wp2_with fail;go_ret;exact⟨rfl,zi hbr _⟩
def VK (n:Nat)(h:n<=200)(w:Aa):Ab AId 166 #[n] w fun e w'=>e=O n/\w=w':=by
 have e1:max (n:Int) 0=n:=by omega
 have e2:min (n:Int) 200=n:=by omega
 go_in;go_wp2_with fail;go_ret;exact⟨rfl,rfl⟩
def Lg.fresh (mr mu:Nat):Lg:=⟨mr,mu,[],[],[],[]⟩
def L8 (mr mu:Nat)(h1:mr<=200)(h2:mu<=200)(w:Aa) :
  Ab AId 104 #[mr,mu] w fun e w'=>e=O (Ah (some ⟨w.1.size,0,none⟩)) /\
   An w' w.1.size #[mr,mu,Ai none 0 0,Ai none 0 0,Ai none 0 0,Ai none 0 0] 219/\Ae w.1.size w w'/\w'.1.size=w.1.size+1:=by
 have H1:=Qa (fun w=>VK mr h1 w)
 have H2:=Qa (fun w=>VK mu h2 w)
 go_in;go_wp2_with fail;refine (H1.o _).mono ?_
 rintro e w1 ⟨rfl,rfl⟩
 go_wp2_with fail;refine (H2.o _).mono ?_
 rintro e w1 ⟨rfl,rfl⟩
 go_wp2_with fail;go_ret;exact⟨rfl,An.Ax _ _ _ _ _ rfl (by simp),qa (qc w) _,by simp⟩
end
section
variable {w : Aa} {o : Own} {l : Bo} {H : Hp} {vc vo vw vf : Ac} {f : Nat -> Nat}
def Gd.after {w' w'':Aa}{o':Own}{H':Hp}(h1:Stp (zd l) o o' w w')(h2:Gd w' o' l H' vo vw vf w''):Gd w o l H' vo vw vf w'':=by
 obtain⟨bX,f',o2,h3,h4⟩:=h2;exact⟨bX,f',o2,h3,h1.trans h4⟩
def AN.Ex {w':Aa}(h:AN w o l H vc vo vw vf f)(hk:H.ok){p:Nat}{ob dM:Ob}(hp:lk H.cur p=some ob){k v:Nat}(hkk:k<ob.size)
  (hT:Turned w w' l.a l.wd (2*H.size+1) (upd f (p+k) v))(ho:BE (upd f (p+k) v) p dM):Gd w o l { H with cur:=up H.cur p dM } vo vw vf w':=
 ⟨vc,_,o,h.turn hk hp hkk hT ho,Stp.Cg hT.2 (by rw[h.ow];exact⟨rfl,by simp⟩)⟩
def Ji (h:AN w o l H vc vo vw vf f)(hw:H.wf)(p i:Nat) :
  Ab AId 112 #[Ah (some ⟨l.h,0,none⟩),p,i] w fun e w'=>e=O (Ak #[I Z ((H.AY p i).2.1:Nat),I Z ((H.AY p i).2.2:Nat)])/\Gd w o l (H.AY p i).1 vo vw vf w':=by
 have hk:=hw.ok;unfold Hp.AY
 cases hp:lk H.cur p with
 | none=>exact (LY h hk hp i).mono fun _ _ ⟨a,b⟩=>⟨a,h.B3 b⟩
 | some ob =>
  simp only;have ho:=hw.Eg hp
  cases hx:ob.AE[i]? with
  | none=>exact (Jj h hk hp i (by have:=aa.1 hx;rw[ho.lp]at this;exact this)).mono fun _ _ ⟨a,b⟩=>⟨a,h.B3 b⟩
  | some x =>
   simp only;obtain⟨ha,_,hl,_⟩:=h.at_ hk hp;have HH:=Qa (ju h hk hp);have HN:=Qa (fun w' (hw:Ae w.1.size w w')=>RI (h.Cq.below hw) ha ho hl i x hx p i rfl rfl);have HC:=Qa (fun w' (hw:Ae w.1.size w w')=>(h.below hw).Bl);have HT:=(fun w' (hw:Ae w.1.size w w')=>bm (h.below hw) hk x)
   cases ht:(Bg H.old x).isSome with
   | false =>
    rw[ht]at HT;replace HT:=Qa HT;have HI:=Qa h;clear h hk hw hp ha ho hl hx ht;rw[if_neg (by simp)]
    go_in;go_wp2_with fail;refine HH.o.mono ?_;rintro e w1 ⟨rfl,hb1⟩;have c1:=HC.o _ hb1;go_wp2_with fail;refine (HN.o _ hb1).mono ?_;rintro e w2 ⟨rfl,hb2⟩;go_wp2_with fail;refine (HT.o _ (qd hb1 hb2)).mono ?_;rintro e w3 ⟨rfl,hb3⟩;go_wp2_with fail;go_ret2;exact⟨rfl,HI.o.B3 (qd (qd hb1 hb2) hb3)⟩
   | true =>
    rw[ht]at HT;replace HT:=Qa HT;rw[if_pos rfl];have HM:=(fun w' (hw:Ae w.1.size w w')=>br (h.below hw) hk x);have hmk:=Hp.Es hk x;have hmb:=de hk (ho.ptr x (Qe hx));have hmp:=px (p:=x) hp;have hsz:=(yc (H:=H) x).1;have hip:i<ob.AM.p:=by have:=(Qc.1 hx).1;rw[ho.lp]at this;exact this
    generalize H.AG x=r at *;obtain⟨H',q⟩:=r;simp only at HM hmk hmb hmp hsz ⊢;have HE:=Qa (fun (w1 w':Aa)(o1:Own) vc1 f1 (h1:AN w1 o1 l H' vc1 vo vw vf f1) hT=>h1.Ex (w':=w') hmk hmp (k:=3+i) (by unfold Ob.size;omega) hT (by rw[show p+(3+i)=p+3+i from by omega];exact (h1.at_ hmk hmp).1.Bm ho i q hip))
    rw[show p+(3+i)=p+3+i from by omega]at HE
    have HS:=Qa (fun (w1:Aa)(o1:Own) vc1 f1 (h1:AN w1 o1 l H' vc1 vo vw vf f1)=>yk h1.Cq (h1.at_ hmk hmp).1 ho (h1.at_ hmk hmp).2.2.1 i q hip hmb p i q rfl rfl rfl);replace HM:=Qa HM;clear h hk hw hp ha ho hl hx ht hmk hmb hmp hip hsz;go_in;go_wp2_with fail;refine HH.o.mono ?_;rintro e w1 ⟨rfl,hb1⟩;have c1:=HC.o _ hb1;go_wp2_with fail;refine (HN.o _ hb1).mono ?_;rintro e w2 ⟨rfl,hb2⟩;go_wp2_with fail;refine (HT.o _ (qd hb1 hb2)).mono ?_;rintro e w3 ⟨rfl,hb3⟩;go_wp2_with fail;refine (HM.o _ (qd (qd hb1 hb2) hb3)).mono ?_;rintro e w4 ⟨rfl,vc4,f4,o4,h4,hs4⟩;have c4:=h4.Bl;go_wp2_with fail;refine (HS.o _ _ _ _ h4).mono ?_;rintro e w5 ⟨rfl,sJ⟩;go_wp2_with fail;go_ret2;exact⟨rfl,Gd.after ((Stp.of_below (qd (qd hb1 hb2) hb3)).trans hs4) (HE.o _ _ _ _ _ h4 sJ)⟩
def YW (h:AN w o l H vc vo vw vf f)(hw:H.wf)(p i q:Nat) :
  Ab AId 113 #[Ah (some ⟨l.h,0,none⟩),p,i,q] w fun e w'=>e=O (I Z ((H.Bh p i q).2:Nat))/\Gd w o l (H.Bh p i q).1 vo vw vf w':=by
 have hk:=hw.ok;unfold Hp.Bh
 cases hp:lk H.cur p with
 | none=>exact (qli h hk hp i q).mono fun _ _ ⟨a,b⟩=>⟨a,h.B3 b⟩
 | some ob =>
  simp only;obtain⟨ha,ho,hl,_⟩:=h.at_ hk hp;have HH:=Qa (ju h hk hp);have HC:=Qa (fun w' (hw:Ae w.1.size w w')=>(h.below hw).Bl);have HI:=Qa h;by_cases hq:q≠0/\lk H.cur q=none
  ·rw[if_pos hq]
   have HQ:=Qa (fun w' (hw:Ae w.1.size w w')=>yg (h.below hw) hk hq.2);have hqi:(q:Int)≠0:=by have:=hq.1;omega
   clear h hk hw hp ha ho hl hq;go_in;go_wp2_with fail;refine HH.o.mono ?_;rintro e w1 ⟨rfl,hb1⟩;go_wp2_with fail;refine (HQ.o _ hb1).mono ?_;rintro e w2 ⟨rfl,hb2⟩;go_wp2_with fail;go_ret;exact⟨rfl,HI.o.B3 (qd hb1 hb2)⟩
  ·rw[if_neg hq]
   by_cases hi:ob.AM.p<=i
   ·rw[if_pos hi]
    have HN:=Qa (fun w' (hw:Ae w.1.size w w')=>qmk (h.Cq.below hw) ha ho hl i hi p i q rfl rfl);by_cases h0:q=0
    ·subst h0
     clear h hk hw hp ha ho hl hq hi;go_in;go_wp2_with fail;refine HH.o.mono ?_;rintro e w1 ⟨rfl,hb1⟩;have c1:=HC.o _ hb1;go_wp2_with fail;refine (HN.o _ hb1).mono ?_;rintro e w2 ⟨rfl,hb2⟩;go_wp2_with fail;go_ret;exact⟨rfl,HI.o.B3 (qd hb1 hb2)⟩
    ·obtain⟨oq,hoq⟩:∃ oq,lk H.cur q=some oq:=by
      cases hoq:lk H.cur q with
      | none=>exact absurd ⟨h0,hoq⟩ hq
      | some oq=>exact⟨oq,rfl⟩
     have HQ:=Qa (fun w' (hw:Ae w.1.size w w')=>ju (h.below hw) hk hoq);have hqi:(q:Int)≠0:=by omega
     clear h hk hw hp ha ho hl hq hi hoq;go_in;go_wp2_with fail;refine HH.o.mono ?_;rintro e w1 ⟨rfl,hb1⟩;go_wp2_with fail;refine (HQ.o _ hb1).mono ?_;rintro e w2 ⟨rfl,hb2⟩;have c1:=HC.o _ (qd hb1 hb2);go_wp2_with fail;refine (HN.o _ (qd hb1 hb2)).mono ?_;rintro e w3 ⟨rfl,hb3⟩;go_wp2_with fail;go_ret;exact⟨rfl,HI.o.B3 (qd (qd hb1 hb2) hb3)⟩
   ·rw[if_neg hi]
    have hq':q=0\/(lk H.cur q).isSome=true:=by
     by_cases h0:q=0
     ·exact .inl h0
     ·refine .inr ?_
      cases hoq:lk H.cur q with
      | none=>exact absurd ⟨h0,hoq⟩ hq
      | some oq=>rfl
    refine (qlw h hk hp i q (by omega) hq').mono ?_
    rintro e w' ⟨rfl,_,⟨f',h'⟩,hw⟩;exact⟨rfl,vc,f',o,h',Stp.Cg hw (by rw[h.ow];exact⟨rfl,by simp⟩)⟩
