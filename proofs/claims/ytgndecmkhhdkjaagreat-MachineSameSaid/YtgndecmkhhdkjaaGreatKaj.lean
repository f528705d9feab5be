import Derived.Test.YtgndecmkhhdkjaaGreatKah
import Derived.Test.YtgndecmkhhdkjaaGreatKai
set_option linter.all false
set_option maxRecDepth 1000000
set_option maxHeartbeats 0
open Go renaming World->Aa,Calls->Ab,Value->Ac
open Go.RowKit renaming Below->Ae
open Go.Value renaming int->I,pointer->Ah,slice->Ai,tuple->Ak,agg->Al
open Go.IntKind renaming i64->Z
open Go.Ending renaming returned->O
open List renaming eq_nil_of_length_eq_zero->Ad,getElem?_eq_none_iff->aa,getD->aj,mem_cons->ay
open Bool renaming false_eq_true->Aj,and_eq_true->af,eq_iff_iff->ai
open Nat renaming zero_add->ag
open Go.Proofs.Tryz
open Go.Proofs.Tryz renaming prog->ANa
open Go.Obj renaming cells->ANb
namespace Go.Proofs.YtgndecmkhhdkjaaGreat
section
open Go.RowKit Hp
section
variable {w : Aa} {o : Own} {l : Bn} {H : Hp} {vc vo vw vf : Ac} {f : Nat -> Nat}
def zg (l:Bn)(t:Tag):Prop:=t.1=l.id/\t.2<=6
def L5 (l:Bn)(u:Bool):zg l (l.tc u):=by unfold zg Bn.tc;cases u<;>simp
def Gl (w:Aa)(o:Own)(l:Bn)(H':Hp)(vo vw vf:Ac)(w':Aa):Prop:=
 ∃ bQ f' o',AN w' o' l H' bQ vo vw vf f'/\Stp (zg l) o o' w w'
def AN.B7 (h:AN w o l H vc vo vw vf f){w':Aa}(hb:Ae w w w'):Gl w o l H vo vw vf w':=⟨vc,f,o,h.below hb,Stp.of_below hb⟩
def AN.FN (h:AN w o l H vc vo vw vf f):l.h≠l.wd:=by
 intro e;have h1:=h.oh;rw[e,h.ow]at h1;simp at h1
def nk (h:AN w o l H vc vo vw vf f) (hk:H.ok) (p:Nat) :
  Ab ANa 122 #[Ah (some ⟨l.h,0,none⟩),p] w fun e w'=>e=O (I Z ((H.AG p).2:Nat))/\Gl w o l (H.AG p).1 vo vw vf w':=by
 have hth:=rj h hk p
 cases hp:Be H.old p with
 | none =>
  rw[hp]at hth;rw[H.CW hp];refine (JM hth).mono ?_;rintro e w' ⟨rfl,hb⟩;exact⟨rfl,h.B7 hb⟩
 | some z =>
  obtain⟨ob,g⟩:=z;rw[hp]at hth;have hsz:=hk.sz;have hroom:=hk.room;have htop:=vg hk;have hm:=zy hp;obtain⟨ho,b1,b2,b3⟩:=dv hk hp;have hrd:=zi _ (Ob.AP ho).2;have bY:=Ob.AP ho;have hb0:=H.Bt (!H.use);have hb1:=H.Bt H.use
  cases g with
  | some q =>
   rw[H.CV hp];have hq:=hk.gone _ hm q rfl;have hf:=(h.Ch _ hm).2 q rfl;simp only at hq hf;have hcp:=fun (W:Aa) (hb:Ae w w W)=>qqb (b:=H.base H.use) (s:=H.size) (t:=H.top) (h.Cr.below hb) (show p<2*H.size+1 by omega) hq.1 hq.2 hf
   have hbl:=h.hb;rcases (show H.use=false\/H.use=true by cases H.use<;>simp) with hu|hu
   ·have e0:H.base H.use=1:=by rw[hu];rfl
    have e1:∀ (v1:Ac),H.cells l.a v1 vo vw vf=#[Ah (some ⟨l.a,0,none⟩),I Z 1,H.size,H.top,I Z (1+(H.size:Int)),H.size,H.Ca,v1,vo,(),.bool H.AK,H.Bv,H.scan,H.Ap,vw,vf]:=fun v1=>by
     unfold Hp.cells;simp only[hu,Aj,if_false]
    rw[e0]at hcp;rw[e1]at hbl;refine (qhj hbl hth hcp).mono ?_;rintro e w' ⟨rfl,hb⟩;exact⟨rfl,h.B7 hb⟩
   ·have e0:(H.base H.use:Int)=1+(H.size:Int):=by rw[hu];show (((1+H.size:Nat)):Int)=_;omega
    have e1:∀ (v1:Ac),H.cells l.a v1 vo vw vf=#[Ah (some ⟨l.a,0,none⟩),I Z 1,H.size,H.Ca,I Z (1+(H.size:Int)),H.size,H.top,vo,v1,I Z 1,.bool H.AK,H.Bv,H.scan,H.Ap,vw,vf]:=fun v1=>by
     unfold Hp.cells;simp only[hu,if_true]
    unfold DN at hcp;rw[e0]at hcp;rw[e1]at hbl;refine (qh2 hbl hth hcp).mono ?_;rintro e w' ⟨rfl,hb⟩;exact⟨rfl,h.B7 hb⟩
  | none =>
   have Amd:=hk.GL;have hge:=SK hp;have hof:=(h.Ch _ hm).1 rfl;simp only at hof;have hcp:=fun (W:Aa) (hb:Ae w w W)=>Hl (b:=H.base H.use) (s:=H.size) (t:=H.top) (h.Cr.below hb) hof ho (by omega) ⟨by omega,by omega,by omega,by omega⟩ (by omega) (by omega) (by omega)
   have hbl:=h.hb;have hQ:∀ W:Aa,BR W l.a l.wd (2*H.size+1) (GC f p H.top ob.size)->Wr l.wd w W ->
     An (W.setCell ⟨l.h,11,none⟩ (I Z ((H.Bv-BG ob.size:Nat):Int))) l.h ({ H with Bv:=H.Bv-BG ob.size }.cells l.a vc vo vw vf) 141 ->
     Ab ANa 187 #[Ah (some ⟨l.h,0,none⟩),DN (H.base H.use) H.size (H.top+BG ob.size),H.top] (W.setCell ⟨l.h,11,none⟩ (I Z ((H.Bv-BG ob.size:Nat):Int))) fun e w'=>e=O (Ak #[])/\Gl w o l (H.AG p).1 vo vw vf w':=by
    intro W hWd iV hB;have hs0:Stp (zg l) o o w W:=Stp.Ci iV (by rw[h.ow];exact⟨rfl,by simp⟩)
    have hs1:Stp (zg l) o o w (W.setCell ⟨l.h,11,none⟩ (I Z ((H.Bv-BG ob.size:Nat):Int))):=hs0.setCell (by rw[h.oh];exact⟨rfl,by simp⟩) _
    have sF:Stp (fun t=>t=(l.id,2)\/t=(l.id,0)) o o w (W.setCell ⟨l.h,11,none⟩ (I Z ((H.Bv-BG ob.size:Nat):Int))):=(Stp.Ci iV (by rw[h.ow];exact .inl rfl)).setCell (by rw[h.oh];exact .inr rfl) _
    have hrc:=h.rc.Ar sF (by cases H.use<;>simp)
    have hro:=h.ro.Ar sF (by cases H.use<;>simp)
    have hrw:=h.rw.Ar sF (by simp)
    have hrf:=h.rf.Ar sF (by simp)
    have Alb:=hWd.wr (Wr.set l.h W 11 (I Z ((H.Bv-BG ob.size:Nat):Int))) (by intro e;have h1:=h.oa;rw[e,h.oh]at h1;simp at h1) (fun e=>h.FN e.symm)
    refine (qqx (H:={ H with Bv:=H.Bv-BG ob.size }) hB hrc (by
     have:=yp _ _ _ hk.cl hk.ck;omega) h.oh H.top (H.top+BG ob.size)).mono ?_
    rintro e w' ⟨rfl,bQ,o',g1,g2,g3⟩;have hne:∀ j,j≠0->(l.id,j)≠l.tc H.use->¬((l.id,j)=(l.id,0)\/(l.id,j)=l.tc H.use):=fun j h1 h2 h=>h.elim (fun e=>h1 (by simpa using e)) h2
    have rW:∀ j,j≠3->j≠4->(l.id,j)≠l.tc H.use:=fun j h3 h4 e=>by unfold Bn.tc at e;cases hu:H.use<;>rw[hu]at e<;>simp at e<;>omega
    refine⟨rfl,bQ,GC f p H.top ob.size,o',?_,?_⟩
    ·refine h.Vq hk hp (by rw[H.Cv hp];exact g1) (Alb.Ar g3 ?_ ?_) g2 (hro.Ar g3 ?_) (hrw.Ar g3 (hne _ (by simp) (rW _ (by simp) (by simp)))) (hrf.Ar g3 (hne _ (by simp) (rW _ (by simp) (by simp)))) (fun b hb=>(g3.tags b (Qn hb hs1.size)).trans (hs1.tags b hb))
     ·rw[h.oa];exact hne _ (by simp) (rW _ (by simp) (by simp))
     ·rw[h.ow];exact hne _ (by simp) (rW _ (by simp) (by simp))
     ·unfold Bn.tc;cases H.use<;>simp
    ·exact hs1.trans (g3.mono fun t ht=>by
      rcases ht with rfl|rfl
      ·exact⟨rfl,by simp⟩
      ·exact L5 _ _)
   rcases (show H.use=false\/H.use=true by cases H.use<;>simp) with hu|hu
   ·have e0:H.base H.use=1:=by rw[hu];rfl
    have e1:∀ (x:Nat) (v1:Ac),{ H with Bv:=x }.cells l.a v1 vo vw vf=#[Ah (some ⟨l.a,0,none⟩),I Z 1,H.size,H.top,I Z (1+(H.size:Int)),H.size,H.Ca,v1,vo,(),.bool H.AK,x,H.scan,H.Ap,vw,vf]:=fun x v1=>by
     unfold Hp.cells;simp only[hu,Aj,if_false]
    rw[e0]at hcp hQ htop hroom;rw[show H.cells l.a vc vo vw vf={ H with Bv:=H.Bv }.cells l.a vc vo vw vf from rfl,e1]at hbl;simp only[e1]at hQ;refine (Mx hbl hth hcp h.FN h.Cr.lt h.Cr.Cm.lt ⟨by omega,by omega⟩ ⟨htop,by omega,by omega,by omega⟩ _ hQ).mono ?_
    rintro e w' ⟨rfl,hq⟩;exact⟨by rw[H.Cv hp],hq⟩
   ·have e0:H.base H.use=1+H.size:=by rw[hu];rfl
    have e1:∀ (x:Nat) (v1:Ac),{ H with Bv:=x }.cells l.a v1 vo vw vf=#[Ah (some ⟨l.a,0,none⟩),I Z 1,H.size,H.Ca,I Z (1+(H.size:Int)),H.size,H.top,vo,v1,I Z 1,.bool H.AK,x,H.scan,H.Ap,vw,vf]:=fun x v1=>by
     unfold Hp.cells;simp only[hu,if_true]
    rw[e0]at hcp hQ htop hroom;have e2:((1+H.size:Nat):Int)=1+(H.size:Int):=by omega
    unfold DN at hcp hQ;rw[e2]at hcp hQ;rw[show H.cells l.a vc vo vw vf={ H with Bv:=H.Bv }.cells l.a vc vo vw vf from rfl,e1]at hbl;simp only[e1]at hQ;refine (My hbl hth hcp h.FN h.Cr.lt h.Cr.Cm.lt ⟨by omega,by omega⟩ ⟨htop,by omega,by omega,by omega⟩ _ hQ).mono ?_
    rintro e w' ⟨rfl,hq⟩;exact⟨by rw[H.Cv hp],hq⟩
end
end
section
open Go.RowKit Hp
attribute [local go_sem ↓] Go.wp_at_zero Go.wp_at_succ
def Ps {n:Nat}(h:n<=4096):n+1<=maxLen/\(n+1)*8<=140737488355328:=by
 simp only[maxLen];omega
def Sv {n:Nat}(h:n<=1099511627776):n+1<=maxLen/\(n+1)*8<=140737488355328:=by
 simp only[maxLen];omega
section
variable {w : Aa} {o : Own} {l : Bn} {H : Hp} {vc vo vw vf : Ac} {f : Nat -> Nat}
def AN.F2 (h:AN w o l H vc vo vw vf f)(hu:H.use=true):An w l.h #[Ah (some ⟨l.a,0,none⟩),I Z 1,H.size,H.Ca,I Z (1+(H.size:Int)),H.size,H.top,vo,vc,I Z 1,.bool H.AK,H.Bv,H.scan,H.Ap,vw,vf] 141:=by
 have hb:=h.hb;unfold Hp.cells at hb;rw[hu,if_pos rfl]at hb;exact hb
def Hp.G3 {H:Hp}(hu:H.use=false):H.base H.use=1:=by rw[hu];rfl
def Hp.G4 {H:Hp}(hu:H.use=true):H.base H.use=1+H.size:=by rw[hu];rfl
def MM (h:AN w o l H vc vo vw vf f) (hk:H.ok) (hu:H.use=false) :
  Ab ANa 63 #[Ah (some ⟨l.h,0,none⟩)] w fun e w'=>e=O (I Z (H.left:Nat))/\Ae w w w':=by
 have hb:=h.EW hu;have htop:=vg hk;have hroom:=hk.room;have hs:=hk.sz;unfold Hp.left;rw[Hp.G3 hu]at htop hroom ⊢;obtain⟨sz,use,cur,top,mv,old,Ca,Bv,scan,Ap,AA,final⟩:=H;simp only at hb hs htop hroom ⊢;have HL:=Qa (fun w=>Ur (b:=1) (s:=sz) (t:=top) ⟨by omega,by omega,by omega,by omega⟩ w)
 obtain⟨r,hr⟩:∃ r:Nat,r=1+sz-top:=⟨_,rfl⟩;obtain⟨q,hq⟩:∃ q:Nat,q=1+sz-top-Bv:=⟨_,rfl⟩;have e1:IntKind.i64.wrap ((r:Int)-(Bv:Int))=(q:Int):=by rw[IntWalk.i64_in _ (by omega)];omega
 rw[<-hr]at HL;rw[<-hq];have HL:=Qa (show ∀ w:Aa,Ab ANa 99 #[Al #[I Z 1,sz,top]] w fun e w'=>e=O r/\Ae w w w' from by have:=HL.o;unfold DN at this;exact this)
 clear h hk hu hr hq htop hroom hs;have lA:=fun (e:Later w) (i:Nat)=>Later.cell hb e i
 go_in;have cc:=hb.cell;go_upto_region 3 with fail;clear cc;refine qy (by kernel_rfl) (by kernel_rfl) ?_
 repeat (go_big_quiet_step ((go_at_call 99;exact kv (HL.o _))))
 refine wpQuiet_nil ?_
 rintro _ ⟨⟨wt,hbt⟩,rfl⟩
 go_wp2_with fail;go_ret;exact⟨rfl,hbt⟩
def MN (h:AN w o l H vc vo vw vf f) (hk:H.ok) (hu:H.use=true) :
  Ab ANa 63 #[Ah (some ⟨l.h,0,none⟩)] w fun e w'=>e=O (I Z (H.left:Nat))/\Ae w w w':=by
 have hb:=h.F2 hu;have htop:=vg hk;have hroom:=hk.room;have hs:=hk.sz;unfold Hp.left;rw[Hp.G4 hu]at htop hroom ⊢;obtain⟨sz,use,cur,top,mv,old,Ca,Bv,scan,Ap,AA,final⟩:=H;simp only at hb hs htop hroom ⊢;have HL:=Qa (fun w=>Ur (b:=1+sz) (s:=sz) (t:=top) ⟨by omega,by omega,by omega,by omega⟩ w)
 obtain⟨r,hr⟩:∃ r:Nat,r=1+sz+sz-top:=⟨_,rfl⟩;obtain⟨q,hq⟩:∃ q:Nat,q=1+sz+sz-top-Bv:=⟨_,rfl⟩;have e1:IntKind.i64.wrap ((r:Int)-(Bv:Int))=(q:Int):=by rw[IntWalk.i64_in _ (by omega)];omega
 rw[<-hr]at HL;rw[<-hq];have HL:=Qa (show ∀ w:Aa,Ab ANa 99 #[Al #[I Z (1+(sz:Int)),sz,top]] w fun e w'=>e=O r/\Ae w w w' from by have:=HL.o;unfold DN at this;rw[show ((1+sz:Nat):Int)=1+(sz:Int) from by omega]at this;exact this)
 clear h hk hu hr hq htop hroom hs;have lA:=fun (e:Later w) (i:Nat)=>Later.cell hb e i
 go_in;have cc:=hb.cell;go_upto_region 3 with fail;clear cc;refine qy (by kernel_rfl) (by kernel_rfl) ?_
 repeat (go_big_quiet_step ((go_at_call 99;exact kv (HL.o _))))
 refine wpQuiet_nil ?_
 rintro _ ⟨⟨wt,hbt⟩,rfl⟩
 go_wp2_with fail;go_ret;exact⟨rfl,hbt⟩
def Sq (h:AN w o l H vc vo vw vf f)(hk:H.ok) :
  Ab ANa 63 #[Ah (some ⟨l.h,0,none⟩)] w fun e w'=>e=O (I Z (H.left:Nat))/\Ae w w w':=by
 cases hu:H.use
 ·exact MM h hk hu
 ·exact MN h hk hu
def AN.D2 (h:AN w o l H vc vo vw vf f) (hw0:H.wf) (s:BQ) (hs:s.ok) (hroom:H.roomy s=true) {w':Aa} {o':Own} {bQ eY dY:Ac}
  (hb:An w' l.h ((H.lay s).cells l.a bQ vo eY dY) 141) (hw:BR w' l.a l.wd (2*H.size+1) (yu f H.top s (H.Ap+1)))
  (rc:Row w' o' (l.tc H.use) 3 1 bQ (H.cur.length+1) ((H.cur.map fun x=>nv x.1)++[nv H.top])) (ro:Row w' o' (l.YV H.use) 3 1 vo H.old.length (H.old.map fun x=>nv x.1))
  (rw':Row w' o' (l.id,5) 3 1 eY (H.lay s).AA.length ((H.lay s).AA.map nv)) (rf:Row w' o' (l.id,6) 3 1 dY (H.lay s).final.length ((H.lay s).final.map nv))
  (ht:∀ b,b<w.1.size->o' b=o b):AN w' o' l (H.lay s) bQ vo eY dY (yu f H.top s (H.Ap+1)):=by
 have hk:=hw0.ok;unfold Hp.roomy Hp.left at hroom;simp only[af,decide_eq_true_eq]at hroom;have hrd:=zi (3+s.p+s.d) (by have:=hs.1;have:=hs.2.1;omega)
 have hr:=hk.room;have htop:=vg hk;have hsp:=VJ H;refine⟨hb,hw,?_,?_,rw',rf,(ht _ h.hb.lt).trans h.oh,(ht _ h.Cr.Cm.lt).trans h.oa,(ht _ h.Cr.lt).trans h.ow,?_,?_,?_⟩
 ·show Row w' o' (l.tc H.use) _ 1 bQ (H.cur++[(H.top,Ob.new s (H.Ap+1))]).length ((H.cur++[(H.top,Ob.new s (H.Ap+1))]).map fun x=>nv x.1)
  simpa using rc
 ·exact ro
 ·intro x hx
  rcases Qs.1 (show x ∈ H.cur++[(H.top,Ob.new s (H.Ap+1))] from hx) with hx|hx
  ·refine (h.Fb x hx).of_eq (hk.ck x hx) fun j h1 h2=>xq _ _ _ _ _ (.inl ?_)
   have h3:=zd _ _ _ hk.cl x hx;have h4:=zi _ (Ob.AP (hk.ck x hx)).2;omega
  ·rw[Zb.1 hx];exact BE.new _ _ _ _
 ·intro x hx
  obtain⟨k1,k2,k3⟩:=J7 hk hx;have h4:=zi _ (Ob.AP k1).2;have h5:=Ob.AP k1;refine⟨fun hn=>((h.Ch x hx).1 hn).of_eq k1 fun j h1 h2=>xq _ _ _ _ _ (by omega),fun q hq=>?_⟩
  rw[xq _ _ _ _ _ (by omega)]
  exact (h.Ch x hx).2 q hq
 ·have:=H.Bt H.use
  rw[xq _ _ _ _ _ (by omega)];exact h.zr
def QR (w:Aa)(o:Own)(l:Bn)(H':Hp)(w':Aa):Prop:=∃ vc vo vw vf f o',AN w' o' l H' vc vo vw vf f/\Stp (zg l) o o' w w'
def GW (h0:AN w o l H vc vo vw vf f) (hF:H.wf) (hu:H.use=false) (s:BQ) (hs:s.ok) (hr:H.roomy s=true) :
  Ab ANa 201 #[Ah (some ⟨l.h,0,none⟩),ka s] w fun e w'=>e=O (Ak #[H.top,()])/\QR w o l (H.lay s) w':=by
 obtain⟨o1,ho1,dN,hS0⟩:=PRe o w (l.id+1,0) (zg l);have h:=h0.retag dN;clear dN
 have hbx:o1 w=(l.id+1,0):=by rw[ho1];exact qq (Qk _)
 clear ho1 h0;have hk:=hF.ok;have hcl:H.cur.length<16384:=by
  have h1:=yp _ _ _ hk.cl hk.ck;have h2:=hk.room;have h3:=hk.sz;omega
 have wN:=Qa hF;have hHr:=Qa hr;have hHz:=Qa hs;unfold Hp.roomy Hp.left at hr;simp only[af,decide_eq_true_eq]at hr;obtain⟨hr,eO⟩:=hr;have hlf:(H.left:Nat)=H.base H.use+H.size-H.top-H.Bv:=rfl;have wO:=Qa eO;clear hF;have hb:=h.EW hu;have htop:=vg hk;have hroom:=hk.room;rw[Hp.G3 hu]at htop hroom hr hlf;have hrd:=zi (3+s.p+s.d) (by obtain⟨h1,h2,_⟩:=hs;omega)
 have hsz:=hk.sz;have hfit:H.top+BG (3+s.p+s.d)+H.Bv<=1+H.size:=by omega
 have HR:=Qa (fun w' (hw:Ae w w w')=>Sq (h.below hw) hk)
 have HS:=Qa (fun w=>yj s hs w)
 have HN:=Qa (fun w=>m8 (3+s.p+s.d) (by omega) (by obtain⟨h1,h2,_⟩:=hs;omega) _ rfl w)
 have HT:=(fun w=>UE (b:=1) (s:=H.size) (t:=H.top) ⟨by omega,by omega,by omega,by omega⟩ (3+s.p+s.d) (by omega) (by obtain⟨h1,h2,_⟩:=hs;omega) (by omega) _ rfl w)
 skip;replace HT:=Qa HT;have nY:¬((BG (3+s.p+s.d):Nat):Int) > ((H.left:Nat):Int):=by omega
 have hse:(H.Ap:Int)<1099511627776:=by omega
 have hHI:=Qa h;have hHK:=Qa hk;generalize hzz:BG (3+s.p+s.d)=rn at *;generalize H.left=EJ at HR nY;clear h hk hr eO hlf;have xN:(0:Int)<=(H.Ap:Int):=by omega
 have hss:((H.Ap+1:Nat):Int)=(H.Ap:Int)+1:=by omega
 generalize hE1:(H.Ap:Int)=dB at hb hse xN hss;generalize hE2:H.size=sz at hb hsz HT htop hroom hfit;generalize rQ:H.top=tp at hb HT htop hroom hfit ⊢;generalize yZ:H.Ca=eP at hb;generalize hE5:H.Bv=dF at hb hroom hfit;generalize hE6:H.scan=CE at hb;generalize hE7:H.AK=gN at hb;go_in;have jS:=An.new w #[s.p,s.d,.bool s.AA,.bool s.final] 82;have cS:=jS.cell;go_wp2_with fail;refine (HS.o _).mono ?_
 rintro e w1 ⟨rfl,hb1⟩
 have hw1:=qe (qc (qd w) _) hb1;have nG:=jS.below hb1 jS.lt;clear hb1 cS;go_wp2_with fail;refine (HN.o _).mono ?_
 rintro e w2 ⟨rfl,hb2⟩
 have hw2:=qe hw1 hb2;have dC:=nG.below hb2 nG.lt;go_wp2_with fail;refine (HR.o _ hw2).mono ?_
 rintro e w3 ⟨rfl,hb3⟩
 have hw3:=qe hw2 hb3;have ic:=dC.below hb3 dC.lt;have pQ:=hb.below hw3 hb.lt;have cH:=pQ.cell;go_upto_region 7 with fail;have sH:=pQ.lt;clear dC nG hb3 hb2 HR HS HN;go_cut [7,10,11] (fun t7 t10 t11 wx=>∃ B,t10=Ah (some ⟨B,0,none⟩)/\t11=I Z tp/\t7=.bool true/\An wx B #[I Z 1,sz,I Z ((tp+rn:Nat):Int)] 135/\Ae w3 w3 wx/\w3.1.size<=B)
 case first =>
  go_region_with (first|(go_at_call 220;refine (HT.o _).mono ?_;rintro e w4 ⟨rfl,hb4⟩;try (have dJ:An w4 w3 #[(),(),()] 135:=An.below (qj (An.new w3 _ _)) hb4 (by simp);have yQ:=dJ.cell;have zB4:=dJ.free;have sB4:=dJ.lt))|fail)
  all_goals
   go_wp2_with fail;go_meet;first
    | exact⟨_,rfl,rfl,rfl,An.Ax _ _ _ _ _ rfl (by simp),qc (qe (qf (qd w3)) hb4) _,hb4.size⟩
    | exact⟨w3.1.size,rfl,rfl,rfl,by simpa using ((dJ.set 0 _).set 1 _).set 2 _,qo (qo (qo (qe (qf (qc (qd w3) _)) hb4) (Qk _) _) (Qk _) _) (Qk _) _,Qk _⟩
 case rest =>
  clear cH sH HT;obtain⟨B,rfl,rfl,rfl,jB,hbw,rM⟩:=hcut;have Amm:=hw3.size;obtain⟨tr,htr⟩:=Ja0 (tp+rn);rw[<-htr]at jB;replace htr:=Qa htr;have iO:=pQ.below hbw pQ.lt;have fP:=ic.below hbw ic.lt;have hwc:=qe hw3 hbw;have HM:=Qa (WY (hHI.o.Cr.below (qf hwc)) s hs (at':=tp) (by have:=zi (3+s.p+s.d) (by obtain⟨h1,h2,_⟩:=hs;omega);rw[hE2];omega) (H.Ap+1) (by have:=wO.o;omega) _ _ rfl hss.symm)
  clear pQ ic hbw hw3;have cH:=iO.cell;have cS:=fP.cell;have sB:=jB.lt;go_upto_region 10 with fail;go_still_tail 11,(by kernel_rfl)
  change wpList _ _ _ _ _ wc.drew;go_wp2_with fail;refine HM.o.mono ?_;rintro e w5 ⟨rfl,hT⟩;have nwd:l.h≠l.wd:=fun e=>by have h1:=hHI.o.oh;rw[e,hHI.o.ow]at h1;cases h1
  have lwd:=hHI.o.Cr.lt;have sP:=(qj iO).wr hT.2 nwd;have ou:=(qj fP).wr hT.2 (by omega)
  have xU:=(qj jB).wr hT.2 (by omega)
  have S5:Stp (fun t=>t=(l.id,2)) o1 o1 w w5:=(Stp.of_below (qf hwc)).trans (Stp.Ci hT.2 hHI.o.ow);clear iO fP jB HM cH cS sB;have cH:=sP.cell;have zH:=sP.free;have cS:=ou.cell;have sB:=xU.lt;have sS:=ou.lt;have cB:=xU.cell;have neB:B≠l.h:=by have:=hHI.o.hb.lt;omega
  have neS:w.1.size≠l.h:=by have:=hHI.o.hb.lt;omega
  go_wp2_with fail;obtain⟨w6,gY⟩:=Ja0 (w5.setCell ⟨l.h,13,none⟩ (I Z (dB+1)));rw[<-gY];have S6:Stp (fun t=>t=(l.id,2)\/t=(l.id,0)) o1 o1 w w6:=by
   rw[gY];exact Stp.setCell (T:=fun t=>t=(l.id,2)\/t=(l.id,0)) (S5.mono fun _ e=>Or.inl e) (Or.inr hHI.o.oh) _
  have nC:An w6 l.h #[Ah (some ⟨l.a,0,none⟩),I Z 1,sz,tp,I Z (1+(sz:Int)),sz,eP,vc,vo,(),gN,dF,I Z CE,I Z (dB+1),vw,vf] 141:=by rw[gY];exact sP.set 13 _
  have xX:An w6 w #[s.p,s.d,.bool s.AA,.bool s.final] 82:=by rw[gY];exact ou.Ao neS _
  have R6:Row w6 o1 (l.id,3) 3 1 vc H.cur.length (H.cur.map fun x=>nv x.1):=by
   have:=hHI.o.rc;rw[hu]at this;exact this.Ar S6 (by simp)
  refine (Ys nC R6 hcl hHI.o.oh (by simp) tp tr).mono ?_
  rintro e w7 ⟨rfl,bQ,o2,iM,R7,S7⟩;have fO:=xX.Ar S7 (by rw[hbx];simp)
  have wH:=(S6.mono (U:=zg l) (by rintro _ (rfl|rfl)<;>simp[zg])).trans (S7.mono (by rintro _ (rfl|rfl)<;>simp[zg]))
  have W7:BR w7 l.a l.wd (2*H.size+1) (yu f tp s (H.Ap+1)):=by
   have h6:BR w6 l.a l.wd (2*H.size+1) (yu f tp s (H.Ap+1)):=by rw[gY];exact (hE2▸hT.1:BR w5 l.a l.wd (2*H.size+1) (yu f tp s (H.Ap+1))).Ar (Stp.setCell (T:=fun t=>t=(l.id,0)) (Stp.refl _ o1 w5) hHI.o.oh _) (by rw[hHI.o.oa];simp) (by rw[hHI.o.ow];simp)
   exact h6.Ar S7 (by rw[hHI.o.oa];simp) (by rw[hHI.o.ow];simp)
  have RO7:Row w7 o2 (l.id,4) 3 1 vo H.old.length (H.old.map fun x=>nv x.1):=by
   have:=hHI.o.ro;rw[hu]at this;exact (this.Ar S6 (by simp)).Ar S7 (by simp)
  have oN:=(hHI.o.rw.Ar S6 (by simp)).Ar S7 (by simp)
  have oM:=(hHI.o.rf.Ar S6 (by simp)).Ar S7 (by simp)
  have xD:w.1.size<w6.1.size:=xX.lt;have S7t:=S7.tags;clear gY nC xX R6 S6 S5 sP ou xU cH zH cS sB sS cB S7 hT neB nwd;have cH:=iM.cell;have zH:=iM.free;have sH:=iM.lt;have cS:=fO.cell;have sS:=fO.lt;have gI:o2 w=(l.id+1,0):=by rw[S7t _ xD];exact hbx
  have T7:∀ b,b<w.1.size->o2 b=o1 b:=fun b hb=>wH.tags b hb;obtain⟨iI,hi,hsI,cK,bZ⟩:=zm;have hu64:=underlying23;have hwl:H.AA.length+1<=maxLen/\(H.AA.length+1)*8<=140737488355328:=Sv (Qo wN.o.wl (by have:=wO.o;omega))
  have hfl:H.final.length+1<=maxLen/\(H.final.length+1)*8<=140737488355328:=Sv (Qo wN.o.fl (by have:=wO.o;omega))
  have oL:=Qa hs.2.2;have HFin:=Qa (fun (w9:Aa) (o9:Own) (eY dY:Ac) (hb:An w9 l.h ((H.lay s).cells l.a bQ vo eY dY) 141) (rw':Row w9 o9 (l.id,5) 3 1 eY (H.lay s).AA.length ((H.lay s).AA.map nv)) (rf:Row w9 o9 (l.id,6) 3 1 dY (H.lay s).final.length ((H.lay s).final.map nv))
    (S:Stp (fun t=>t=(l.id,0)\/t=(l.id,5)\/t=(l.id,6)) o2 o9 w7 w9) =>
   show QR w o l (H.lay s) w9 from
    ⟨bQ,vo,eY,dY,_,o9,hHI.o.D2 wN.o s hHz.o hHr.o hb (by
      have:=W7.Ar S (by rw[T7 _ hHI.o.Cr.Cm.lt,hHI.o.oa];simp) (by rw[T7 _ hHI.o.Cr.lt,hHI.o.ow];simp)
      rw[rQ];exact this) (by have:=R7.Ar S (by simp);rw[rQ,hu];exact this) (by rw[hu];exact RO7.Ar S (by simp)) rw' rf
      (fun b hb=>(S.tags b (Qn hb wH.size)).trans (T7 b hb)),(hS0.trans wH).trans (S.mono (by rintro _ (rfl|rfl|rfl)<;>simp[zg]))⟩)
  have dP:=Qa (show ∀ eY dY,(H.lay s).cells l.a bQ vo eY dY=#[Ah (some ⟨l.a,0,none⟩),I Z 1,sz,tr,I Z (1+(sz:Int)),sz,eP,bQ,vo,(),gN,dF,I Z CE,I Z (dB+1),eY,dY] from fun eY dY=>by
   unfold Hp.cells Hp.lay;simp only[hu];rw[if_neg (by simp),hE2,rQ,yZ,hE5,hE6,hE7,htr.o,hss,hzz])
  clear W7 R7 RO7 hs;have nK:o2 l.h=(l.id,0):=(T7 _ hHI.o.hb.lt).trans hHI.o.oh;have wF:s.AA=false->(H.lay s).AA=H.AA:=fun e=>by unfold Hp.lay;simp[e]
  have wT:s.AA=true->(H.lay s).AA=H.AA++[H.top]:=fun e=>by unfold Hp.lay;simp[e]
  have fF:s.final=false->(H.lay s).final=H.final:=fun e=>by unfold Hp.lay;simp[e]
  have fT:s.final=true->(H.lay s).final=H.final++[H.top]:=fun e=>by unfold Hp.lay;simp[e]
  rw[rQ]at wT fT;replace hwl:=Qa hwl;replace hfl:=Qa hfl;replace oN:=Qa oN;replace oM:=Qa oM;replace gI:=Qa gI;replace nK:=Qa nK
  cases hwk:s.AA
  ·rw[hwk]at fO
   cases hfn:s.final
   ·rw[hfn]at fO
    have cS:=fO.cell;go_wp2_with fail;go_ret2;exact⟨rfl,HFin.o w7 o2 vw vf (by rw[dP.o];exact iM) (by rw[wF hwk];exact oN.o) (by rw[fF hfn];exact oM.o) (Stp.refl _ _ _)⟩
   ·rw[hfn]at fO
    have cS:=fO.cell;go_wp2_with (first|(at_builtin;refine qg _ rfl _ _ _ rfl 3 iI _ 1 8 hu64 hi bZ hsI cK rfl (by decide) o2 (l.id,6) _ _ _ rfl (Row.below oM.o (qc (qd w7) _)) ⟨w7,0,none⟩ 1 1 [I Z tp] rfl rfl (qx (An.new w7 _ _)) jh hfl.o.1 hfl.o.2 ?_;intro v' w8 hown hst;obtain⟨pa,cp,rfl⟩:=hown.A6;have gM:=(iM.alloc (ANb #[tp] 3)).Ar hst (by rw[nK.o];simp);have pU:=(fO.alloc (ANb #[tp] 3)).Ar hst (by rw[gI.o];simp);have cH8:=gM.cell;have zH8:=gM.free;have sH8:=gM.lt;have cS8:=pU.cell;have sS8:=pU.lt)|fail)
    go_ret2;have k8:=Stp.setCell (T:=fun t=>t=(l.id,0)) (Stp.refl _ (ext o2 (w7.alloc (ANb #[tp] 3)).1.size (l.id,6)) w8) (a:=⟨l.h,15,none⟩) (by show ext o2 _ _ l.h=_;rw[qk (iM.alloc (ANb #[tp] 3)).lt];exact nK.o) (.slice pa (H.final.length+1) cp)
    have s8:Stp (fun t=>t=(l.id,0)\/t=(l.id,5)\/t=(l.id,6)) o2 _ w7 _:=((Stp.of_below (T:=fun t=>t=(l.id,6)) (qc (qd w7) (ANb #[tp] 3))).trans hst |>.mono (by rintro _ rfl;simp)).trans (k8.mono (by rintro _ rfl;simp))
    refine⟨rfl,HFin.o _ _ _ _ (by rw[dP.o];exact gM.set 15 _) ?_ ?_ s8⟩
    ·rw[wF hwk];exact ((Row.below oN.o (qc (qd w7) _)).Ar hst (by simp)).Ar k8 (by simp)
    ·rw[fT hfn];simpa [nv] using hown.Ar k8 (by simp)
  ·rw[hwk,(oL.o hwk).2.2]at fO
   have cS:=fO.cell;go_wp2_with (first|(at_builtin;refine qg _ rfl _ _ _ rfl 3 iI _ 1 8 hu64 hi bZ hsI cK rfl (by decide) o2 (l.id,5) _ _ _ rfl (Row.below oN.o (qc (qd w7) _)) ⟨w7,0,none⟩ 1 1 [I Z tp] rfl rfl (qx (An.new w7 _ _)) jh hwl.o.1 hwl.o.2 ?_;intro v' w8 hown hst;obtain⟨pa,cp,rfl⟩:=hown.A6;have gM:=(iM.alloc (ANb #[tp] 3)).Ar hst (by rw[nK.o];simp);have pU:=(fO.alloc (ANb #[tp] 3)).Ar hst (by rw[gI.o];simp);have cH8:=gM.cell;have zH8:=gM.free;have sH8:=gM.lt;have cS8:=pU.cell;have sS8:=pU.lt)|fail)
   go_ret2;have k8:=Stp.setCell (T:=fun t=>t=(l.id,0)) (Stp.refl _ (ext o2 (w7.alloc (ANb #[tp] 3)).1.size (l.id,5)) w8) (a:=⟨l.h,14,none⟩) (by show ext o2 _ _ l.h=_;rw[qk (iM.alloc (ANb #[tp] 3)).lt];exact nK.o) (.slice pa (H.AA.length+1) cp)
   have s8:Stp (fun t=>t=(l.id,0)\/t=(l.id,5)\/t=(l.id,6)) o2 _ w7 _:=((Stp.of_below (T:=fun t=>t=(l.id,5)) (qc (qd w7) (ANb #[tp] 3))).trans hst |>.mono (by rintro _ rfl;simp)).trans (k8.mono (by rintro _ rfl;simp))
   refine⟨rfl,HFin.o _ _ _ _ (by rw[dP.o];exact gM.set 14 _) ?_ ?_ s8⟩
   ·rw[wT hwk];simpa [nv] using hown.Ar k8 (by simp)
   ·rw[fF (oL.o hwk).2.2];exact ((Row.below oM.o (qc (qd w7) _)).Ar hst (by simp)).Ar k8 (by simp)
def GX (h0:AN w o l H vc vo vw vf f) (hF:H.wf) (hu:H.use=true) (s:BQ) (hs:s.ok) (hr:H.roomy s=true) :
  Ab ANa 201 #[Ah (some ⟨l.h,0,none⟩),ka s] w fun e w'=>e=O (Ak #[H.top,()])/\QR w o l (H.lay s) w':=by
 obtain⟨o1,ho1,dN,hS0⟩:=PRe o w (l.id+1,0) (zg l);have h:=h0.retag dN;clear dN
 have hbx:o1 w=(l.id+1,0):=by rw[ho1];exact qq (Qk _)
 clear ho1 h0;have hk:=hF.ok;have hcl:H.cur.length<16384:=by
  have h1:=yp _ _ _ hk.cl hk.ck;have h2:=hk.room;have h3:=hk.sz;omega
 have wN:=Qa hF;have hHr:=Qa hr;have hHz:=Qa hs;unfold Hp.roomy Hp.left at hr;simp only[af,decide_eq_true_eq]at hr;obtain⟨hr,eO⟩:=hr;have hlf:(H.left:Nat)=H.base H.use+H.size-H.top-H.Bv:=rfl;have wO:=Qa eO;clear hF;have hb:=h.F2 hu;have htop:=vg hk;have hroom:=hk.room;rw[Hp.G4 hu]at htop hroom hr hlf;have hrd:=zi (3+s.p+s.d) (by obtain⟨h1,h2,_⟩:=hs;omega)
 have hsz:=hk.sz;have hfit:H.top+BG (3+s.p+s.d)+H.Bv<=1+H.size+H.size:=by omega
 have HR:=Qa (fun w' (hw:Ae w w w')=>Sq (h.below hw) hk)
 have HS:=Qa (fun w=>yj s hs w)
 have HN:=Qa (fun w=>m8 (3+s.p+s.d) (by omega) (by obtain⟨h1,h2,_⟩:=hs;omega) _ rfl w)
 have HT:=(fun w=>UE (b:=1+H.size) (s:=H.size) (t:=H.top) ⟨by omega,by omega,by omega,by omega⟩ (3+s.p+s.d) (by omega) (by obtain⟨h1,h2,_⟩:=hs;omega) (by omega) _ rfl w)
 unfold DN at HT;rw[show ((1+H.size:Nat):Int)=1+(H.size:Int) from by omega]at HT
 replace HT:=Qa HT;have nY:¬((BG (3+s.p+s.d):Nat):Int) > ((H.left:Nat):Int):=by omega
 have hse:(H.Ap:Int)<1099511627776:=by omega
 have hHI:=Qa h;have hHK:=Qa hk;generalize hzz:BG (3+s.p+s.d)=rn at *;generalize H.left=EJ at HR nY;clear h hk hr eO hlf;have xN:(0:Int)<=(H.Ap:Int):=by omega
 have hss:((H.Ap+1:Nat):Int)=(H.Ap:Int)+1:=by omega
 generalize hE1:(H.Ap:Int)=dB at hb hse xN hss;generalize hE2:H.size=sz at hb hsz HT htop hroom hfit;generalize rQ:H.top=tp at hb HT htop hroom hfit ⊢;generalize yZ:H.Ca=eP at hb;generalize hE5:H.Bv=dF at hb hroom hfit;generalize hE6:H.scan=CE at hb;generalize hE7:H.AK=gN at hb;go_in;have jS:=An.new w #[s.p,s.d,.bool s.AA,.bool s.final] 82;have cS:=jS.cell;go_wp2_with fail;refine (HS.o _).mono ?_
 rintro e w1 ⟨rfl,hb1⟩
 have hw1:=qe (qc (qd w) _) hb1;have nG:=jS.below hb1 jS.lt;clear hb1 cS;go_wp2_with fail;refine (HN.o _).mono ?_
 rintro e w2 ⟨rfl,hb2⟩
 have hw2:=qe hw1 hb2;have dC:=nG.below hb2 nG.lt;go_wp2_with fail;refine (HR.o _ hw2).mono ?_
 rintro e w3 ⟨rfl,hb3⟩
 have hw3:=qe hw2 hb3;have ic:=dC.below hb3 dC.lt;have pQ:=hb.below hw3 hb.lt;have cH:=pQ.cell;go_upto_region 7 with fail;have sH:=pQ.lt;clear dC nG hb3 hb2 HR HS HN;go_cut [7,10,11] (fun t7 t10 t11 wx=>∃ B,t10=Ah (some ⟨B,0,none⟩)/\t11=I Z tp/\t7=.bool true/\An wx B #[I Z (1+(sz:Int)),sz,I Z ((tp+rn:Nat):Int)] 135/\Ae w3 w3 wx/\w3.1.size<=B)
 case first =>
  go_region_with (first|(go_at_call 220;refine (HT.o _).mono ?_;rintro e w4 ⟨rfl,hb4⟩;try (have dJ:An w4 w3 #[(),(),()] 135:=An.below (qj (An.new w3 _ _)) hb4 (by simp);have yQ:=dJ.cell;have zB4:=dJ.free;have sB4:=dJ.lt))|fail)
  all_goals
   go_wp2_with fail;go_meet;first
    | exact⟨_,rfl,rfl,rfl,An.Ax _ _ _ _ _ rfl (by simp),qc (qe (qf (qd w3)) hb4) _,hb4.size⟩
    | exact⟨w3.1.size,rfl,rfl,rfl,by simpa using ((dJ.set 0 _).set 1 _).set 2 _,qo (qo (qo (qe (qf (qc (qd w3) _)) hb4) (Qk _) _) (Qk _) _) (Qk _) _,Qk _⟩
 case rest =>
  clear cH sH HT;obtain⟨B,rfl,rfl,rfl,jB,hbw,rM⟩:=hcut;have Amm:=hw3.size;obtain⟨tr,htr⟩:=Ja0 (tp+rn);rw[<-htr]at jB;replace htr:=Qa htr;have iO:=pQ.below hbw pQ.lt;have fP:=ic.below hbw ic.lt;have hwc:=qe hw3 hbw;have HM:=Qa (WY (hHI.o.Cr.below (qf hwc)) s hs (at':=tp) (by have:=zi (3+s.p+s.d) (by obtain⟨h1,h2,_⟩:=hs;omega);rw[hE2];omega) (H.Ap+1) (by have:=wO.o;omega) _ _ rfl hss.symm)
  clear pQ ic hbw hw3;have cH:=iO.cell;have cS:=fP.cell;have sB:=jB.lt;go_upto_region 10 with fail;go_still_tail 11,(by kernel_rfl)
  change wpList _ _ _ _ _ wc.drew;go_wp2_with fail;refine HM.o.mono ?_;rintro e w5 ⟨rfl,hT⟩;have nwd:l.h≠l.wd:=fun e=>by have h1:=hHI.o.oh;rw[e,hHI.o.ow]at h1;cases h1
  have lwd:=hHI.o.Cr.lt;have sP:=(qj iO).wr hT.2 nwd;have ou:=(qj fP).wr hT.2 (by omega)
  have xU:=(qj jB).wr hT.2 (by omega)
  have S5:Stp (fun t=>t=(l.id,2)) o1 o1 w w5:=(Stp.of_below (qf hwc)).trans (Stp.Ci hT.2 hHI.o.ow);clear iO fP jB HM cH cS sB;have cH:=sP.cell;have zH:=sP.free;have cS:=ou.cell;have sB:=xU.lt;have sS:=ou.lt;have cB:=xU.cell;have neB:B≠l.h:=by have:=hHI.o.hb.lt;omega
  have neS:w.1.size≠l.h:=by have:=hHI.o.hb.lt;omega
  go_wp2_with fail;obtain⟨w6,gY⟩:=Ja0 (w5.setCell ⟨l.h,13,none⟩ (I Z (dB+1)));rw[<-gY];have S6:Stp (fun t=>t=(l.id,2)\/t=(l.id,0)) o1 o1 w w6:=by
   rw[gY];exact Stp.setCell (T:=fun t=>t=(l.id,2)\/t=(l.id,0)) (S5.mono fun _ e=>Or.inl e) (Or.inr hHI.o.oh) _
  have nC:An w6 l.h #[Ah (some ⟨l.a,0,none⟩),I Z 1,sz,eP,I Z (1+(sz:Int)),sz,tp,vo,vc,I Z 1,gN,dF,I Z CE,I Z (dB+1),vw,vf] 141:=by rw[gY];exact sP.set 13 _
  have xX:An w6 w #[s.p,s.d,.bool s.AA,.bool s.final] 82:=by rw[gY];exact ou.Ao neS _
  have R6:Row w6 o1 (l.id,4) 3 1 vc H.cur.length (H.cur.map fun x=>nv x.1):=by
   have:=hHI.o.rc;rw[hu]at this;exact this.Ar S6 (by simp)
  refine (Yr nC R6 hcl hHI.o.oh (by simp) tp tr).mono ?_
  rintro e w7 ⟨rfl,bQ,o2,iM,R7,S7⟩;have fO:=xX.Ar S7 (by rw[hbx];simp)
  have wH:=(S6.mono (U:=zg l) (by rintro _ (rfl|rfl)<;>simp[zg])).trans (S7.mono (by rintro _ (rfl|rfl)<;>simp[zg]))
  have W7:BR w7 l.a l.wd (2*H.size+1) (yu f tp s (H.Ap+1)):=by
   have h6:BR w6 l.a l.wd (2*H.size+1) (yu f tp s (H.Ap+1)):=by rw[gY];exact (hE2▸hT.1:BR w5 l.a l.wd (2*H.size+1) (yu f tp s (H.Ap+1))).Ar (Stp.setCell (T:=fun t=>t=(l.id,0)) (Stp.refl _ o1 w5) hHI.o.oh _) (by rw[hHI.o.oa];simp) (by rw[hHI.o.ow];simp)
   exact h6.Ar S7 (by rw[hHI.o.oa];simp) (by rw[hHI.o.ow];simp)
  have RO7:Row w7 o2 (l.id,3) 3 1 vo H.old.length (H.old.map fun x=>nv x.1):=by
   have:=hHI.o.ro;rw[hu]at this;exact (this.Ar S6 (by simp)).Ar S7 (by simp)
  have oN:=(hHI.o.rw.Ar S6 (by simp)).Ar S7 (by simp)
  have oM:=(hHI.o.rf.Ar S6 (by simp)).Ar S7 (by simp)
  have xD:w.1.size<w6.1.size:=xX.lt;have S7t:=S7.tags;clear gY nC xX R6 S6 S5 sP ou xU cH zH cS sB sS cB S7 hT neB nwd;have cH:=iM.cell;have zH:=iM.free;have sH:=iM.lt;have cS:=fO.cell;have sS:=fO.lt;have gI:o2 w=(l.id+1,0):=by rw[S7t _ xD];exact hbx
  have T7:∀ b,b<w.1.size->o2 b=o1 b:=fun b hb=>wH.tags b hb;obtain⟨iI,hi,hsI,cK,bZ⟩:=zm;have hu64:=underlying23;have hwl:H.AA.length+1<=maxLen/\(H.AA.length+1)*8<=140737488355328:=Sv (Qo wN.o.wl (by have:=wO.o;omega))
  have hfl:H.final.length+1<=maxLen/\(H.final.length+1)*8<=140737488355328:=Sv (Qo wN.o.fl (by have:=wO.o;omega))
  have oL:=Qa hs.2.2;have HFin:=Qa (fun (w9:Aa) (o9:Own) (eY dY:Ac) (hb:An w9 l.h ((H.lay s).cells l.a bQ vo eY dY) 141) (rw':Row w9 o9 (l.id,5) 3 1 eY (H.lay s).AA.length ((H.lay s).AA.map nv)) (rf:Row w9 o9 (l.id,6) 3 1 dY (H.lay s).final.length ((H.lay s).final.map nv))
    (S:Stp (fun t=>t=(l.id,0)\/t=(l.id,5)\/t=(l.id,6)) o2 o9 w7 w9) =>
   show QR w o l (H.lay s) w9 from
    ⟨bQ,vo,eY,dY,_,o9,hHI.o.D2 wN.o s hHz.o hHr.o hb (by
      have:=W7.Ar S (by rw[T7 _ hHI.o.Cr.Cm.lt,hHI.o.oa];simp) (by rw[T7 _ hHI.o.Cr.lt,hHI.o.ow];simp)
      rw[rQ];exact this) (by have:=R7.Ar S (by simp);rw[rQ,hu];exact this) (by rw[hu];exact RO7.Ar S (by simp)) rw' rf
      (fun b hb=>(S.tags b (Qn hb wH.size)).trans (T7 b hb)),(hS0.trans wH).trans (S.mono (by rintro _ (rfl|rfl|rfl)<;>simp[zg]))⟩)
  have dP:=Qa (show ∀ eY dY,(H.lay s).cells l.a bQ vo eY dY=#[Ah (some ⟨l.a,0,none⟩),I Z 1,sz,eP,I Z (1+(sz:Int)),sz,tr,vo,bQ,I Z 1,gN,dF,I Z CE,I Z (dB+1),eY,dY] from fun eY dY=>by
   unfold Hp.cells Hp.lay;simp only[hu];rw[if_pos trivial,hE2,rQ,yZ,hE5,hE6,hE7,htr.o,hss,hzz])
  clear W7 R7 RO7 hs;have nK:o2 l.h=(l.id,0):=(T7 _ hHI.o.hb.lt).trans hHI.o.oh;have wF:s.AA=false->(H.lay s).AA=H.AA:=fun e=>by unfold Hp.lay;simp[e]
  have wT:s.AA=true->(H.lay s).AA=H.AA++[H.top]:=fun e=>by unfold Hp.lay;simp[e]
  have fF:s.final=false->(H.lay s).final=H.final:=fun e=>by unfold Hp.lay;simp[e]
  have fT:s.final=true->(H.lay s).final=H.final++[H.top]:=fun e=>by unfold Hp.lay;simp[e]
  rw[rQ]at wT fT;replace hwl:=Qa hwl;replace hfl:=Qa hfl;replace oN:=Qa oN;replace oM:=Qa oM;replace gI:=Qa gI;replace nK:=Qa nK
  cases hwk:s.AA
  ·rw[hwk]at fO
   cases hfn:s.final
   ·rw[hfn]at fO
    have cS:=fO.cell;go_wp2_with fail;go_ret2;exact⟨rfl,HFin.o w7 o2 vw vf (by rw[dP.o];exact iM) (by rw[wF hwk];exact oN.o) (by rw[fF hfn];exact oM.o) (Stp.refl _ _ _)⟩
   ·rw[hfn]at fO
    have cS:=fO.cell;go_wp2_with (first|(at_builtin;refine qg _ rfl _ _ _ rfl 3 iI _ 1 8 hu64 hi bZ hsI cK rfl (by decide) o2 (l.id,6) _ _ _ rfl (Row.below oM.o (qc (qd w7) _)) ⟨w7,0,none⟩ 1 1 [I Z tp] rfl rfl (qx (An.new w7 _ _)) jh hfl.o.1 hfl.o.2 ?_;intro v' w8 hown hst;obtain⟨pa,cp,rfl⟩:=hown.A6;have gM:=(iM.alloc (ANb #[tp] 3)).Ar hst (by rw[nK.o];simp);have pU:=(fO.alloc (ANb #[tp] 3)).Ar hst (by rw[gI.o];simp);have cH8:=gM.cell;have zH8:=gM.free;have sH8:=gM.lt;have cS8:=pU.cell;have sS8:=pU.lt)|fail)
    go_ret2;have k8:=Stp.setCell (T:=fun t=>t=(l.id,0)) (Stp.refl _ (ext o2 (w7.alloc (ANb #[tp] 3)).1.size (l.id,6)) w8) (a:=⟨l.h,15,none⟩) (by show ext o2 _ _ l.h=_;rw[qk (iM.alloc (ANb #[tp] 3)).lt];exact nK.o) (.slice pa (H.final.length+1) cp)
    have s8:Stp (fun t=>t=(l.id,0)\/t=(l.id,5)\/t=(l.id,6)) o2 _ w7 _:=((Stp.of_below (T:=fun t=>t=(l.id,6)) (qc (qd w7) (ANb #[tp] 3))).trans hst |>.mono (by rintro _ rfl;simp)).trans (k8.mono (by rintro _ rfl;simp))
    refine⟨rfl,HFin.o _ _ _ _ (by rw[dP.o];exact gM.set 15 _) ?_ ?_ s8⟩
    ·rw[wF hwk];exact ((Row.below oN.o (qc (qd w7) _)).Ar hst (by simp)).Ar k8 (by simp)
    ·rw[fT hfn];simpa [nv] using hown.Ar k8 (by simp)
  ·rw[hwk,(oL.o hwk).2.2]at fO
   have cS:=fO.cell;go_wp2_with (first|(at_builtin;refine qg _ rfl _ _ _ rfl 3 iI _ 1 8 hu64 hi bZ hsI cK rfl (by decide) o2 (l.id,5) _ _ _ rfl (Row.below oN.o (qc (qd w7) _)) ⟨w7,0,none⟩ 1 1 [I Z tp] rfl rfl (qx (An.new w7 _ _)) jh hwl.o.1 hwl.o.2 ?_;intro v' w8 hown hst;obtain⟨pa,cp,rfl⟩:=hown.A6;have gM:=(iM.alloc (ANb #[tp] 3)).Ar hst (by rw[nK.o];simp);have pU:=(fO.alloc (ANb #[tp] 3)).Ar hst (by rw[gI.o];simp);have cH8:=gM.cell;have zH8:=gM.free;have sH8:=gM.lt;have cS8:=pU.cell;have sS8:=pU.lt)|fail)
   go_ret2;have k8:=Stp.setCell (T:=fun t=>t=(l.id,0)) (Stp.refl _ (ext o2 (w7.alloc (ANb #[tp] 3)).1.size (l.id,5)) w8) (a:=⟨l.h,14,none⟩) (by show ext o2 _ _ l.h=_;rw[qk (iM.alloc (ANb #[tp] 3)).lt];exact nK.o) (.slice pa (H.AA.length+1) cp)
   have s8:Stp (fun t=>t=(l.id,0)\/t=(l.id,5)\/t=(l.id,6)) o2 _ w7 _:=((Stp.of_below (T:=fun t=>t=(l.id,5)) (qc (qd w7) (ANb #[tp] 3))).trans hst |>.mono (by rintro _ rfl;simp)).trans (k8.mono (by rintro _ rfl;simp))
   refine⟨rfl,HFin.o _ _ _ _ (by rw[dP.o];exact gM.set 14 _) ?_ ?_ s8⟩
   ·rw[wT hwk];simpa [nv] using hown.Ar k8 (by simp)
   ·rw[fF (oL.o hwk).2.2];exact ((Row.below oM.o (qc (qd w7) _)).Ar hst (by simp)).Ar k8 (by simp)
def AN.FM (h:AN w o l H vc vo vw vf f){w':Aa}(hb:Ae w w w'):QR w o l H w':=⟨vc,vo,vw,vf,f,o,h.below hb,Stp.of_below hb⟩
def qlo (h:AN w o l H vc vo vw vf f)(hk:H.ok)(s:BQ)(hs:s.ok)(hr:H.roomy s=false) :
  Ab ANa 201 #[Ah (some ⟨l.h,0,none⟩),ka s] w fun e w'=>e=O (Ak #[(),I Z 100])/\Ae w w w':=by
 have eO:=hk.Bc;have hrd:=zi (3+s.p+s.d) (by obtain⟨h1,h2,_⟩:=hs;omega)
 have HR:=Qa (fun w' (hw:Ae w w w')=>Sq (h.below hw) hk)
 have HS:=Qa (fun w=>yj s hs w)
 have HN:=Qa (fun w=>m8 (3+s.p+s.d) (by omega) (by obtain⟨h1,h2,_⟩:=hs;omega) _ rfl w)
 have Sj:∀ w',Ae w w w'->w'.cell? ⟨l.h,13,none⟩=some (I Z H.Ap):=fun w' hb=>by
  rw[(h.hb.below hb h.hb.lt).cell];unfold Hp.cells;split<;>rfl
 have HC:=Qa Sj;unfold Hp.roomy at hr;have hd:((H.left:Nat):Int)<((BG (3+s.p+s.d):Nat):Int)\/(¬((H.left:Nat):Int)<((BG (3+s.p+s.d):Nat):Int)/\(1099511627776:Int)<=(H.Ap:Int)):=by
  simp only[Bool.and_eq_false_iff,decide_eq_false_iff_not]at hr;omega
 generalize ((H.left:Nat):Int)=q at HR hd;generalize ((BG (3+s.p+s.d):Nat):Int)=rn at HN hd;generalize (H.Ap:Int)=sr at *;clear h hk hr eO hrd Sj;rcases hd with nY|⟨nY,hse⟩
 all_goals
  go_in;have jS:=An.new w #[s.p,s.d,.bool s.AA,.bool s.final] 82;have cS:=jS.cell;go_wp2_with fail;refine (HS.o _).mono ?_;rintro e w1 ⟨rfl,hb1⟩;have hw1:=qe (qc (qd w) _) hb1;clear hb1 cS;go_wp2_with fail;refine (HN.o _).mono ?_;rintro e w2 ⟨rfl,hb2⟩;have hw2:=qe hw1 hb2;go_wp2_with fail;refine (HR.o _ hw2).mono ?_;rintro e w3 ⟨rfl,hb3⟩;have Sj:=HC.o _ (qe hw2 hb3);go_wp2_with fail;go_ret2;exact⟨rfl,qe hw2 hb3⟩
def qov (h:AN w o l H vc vo vw vf f)(hw:H.wf)(s:BQ)(hs:s.ok) :
  Ab ANa 201 #[Ah (some ⟨l.h,0,none⟩),ka s] w fun e w'=>e=O (Ak #[I Z ((H.AR s).2.1:Nat),I Z ((H.AR s).2.2:Nat)])/\QR w o l (H.AR s).1 w':=by
 unfold Hp.AR
 cases hr:H.roomy s with
 | false =>
  rw[if_neg (by simp)]
  refine (qlo h hw.ok s hs hr).mono ?_;rintro e w' ⟨rfl,hb⟩;exact⟨rfl,h.FM hb⟩
 | true =>
  rw[if_pos rfl]
  cases hu:H.use
  ·exact GW h hw hu s hs hr
  ·exact GX h hw hu s hs hr
end
end
section
open Go.RowKit Go.Lib Go.Shelf Hp
def qfr:Go.Shelf.Ren:=⟨fun|41=>194|n=>n,fun|22=>150|23=>195|4=>4|n=>n,fun|n=>n⟩
def tb:Go.Proofs.SlLaysE0.n41 ANa qfr:={
 mixed:=by kernel_rfl
 f41:=⟨Tryz.f194.name,by decide,func194.trans (congrArg some (by kernel_rfl))⟩
 t4:=underlying4
 a4:=isAgg4
 z4:=sizeOf4
 v4:=zeroValue4
 t22:=underlying150
 a22:=isAgg150
 z22:=sizeOf150
 v22:=zeroValue150 }
def qfo:Go.Shelf.Ren:=⟨fun|41=>236|n=>n,fun|22=>151|23=>198|4=>4|n=>n,fun|n=>n⟩
def tf:Go.Proofs.SlLaysE0.n41 ANa qfo:={
 mixed:=by kernel_rfl
 f41:=⟨Tryz.f236.name,by decide,func236.trans (congrArg some (by kernel_rfl))⟩
 t4:=underlying4
 a4:=isAgg4
 z4:=sizeOf4
 v4:=zeroValue4
 t22:=underlying151
 a22:=isAgg151
 z22:=sizeOf151
 v22:=zeroValue151 }
def info_parts {t:TypeId}{z:Ac}{s b:Nat}(h:((ANa.info? t).map fun i=>(i.zero,i.size,i.bytes))=some (some z,s,b)):∃ i,ANa.info? t=some i/\i.size=s/\i.bytes=b/\i.zero=some z:=by
 obtain⟨i,hi,he⟩:=Option.map_eq_some_iff.1 h;injection he with e1 e2;injection e2 with e2 e3;exact⟨i,hi,e2,e3,e1⟩
def Xa:∃ i,ANa.info? 195=some i/\i.size=2/\i.bytes=16/\i.zero=some (Al #[(),()]):=info_parts (by kernel_rfl)
def W8:∃ i,ANa.info? 198=some i/\i.size=4/\i.bytes=32/\i.zero=some (Al #[(),(),(),()]):=info_parts (by kernel_rfl)
def cg {w w':Aa}{o:Own}{t:Tag}{e:TypeId}{size n:Nat}{v:Ac}{xs:List Ac}(h:w'.ownsRow w e size v n xs):Row w' (ext o w t) t e size v n xs:=by
 refine⟨⟨h.1,?_⟩,fun k hk=>?_⟩
 ·rcases h.2 with hv|⟨g,cap,cur,hv,hb,hg⟩
  ·exact .inl hv
  ·exact .inr ⟨g,cap,cur,hv,Nat.zero_le _,hg⟩
 ·rcases h.2 with ⟨rfl,_⟩|⟨g,cap,cur,rfl,hb,hg⟩
  ·simp[Value.ownBlock]at hk
  ·have:g=k:=by simpa [Value.ownBlock] using hk
   subst this;exact qq hb
section
variable {w : Aa} {o : Own} {t : Tag} {v : Ac} {n : Nat} {xs : List Ac}
def qm3 (h:Row w o t 195 2 v n xs)(hn:n<=100000)(h1:∀ u ∈ xs,u.oneCell'=true)(tg:Tag) :
  Ab ANa 194 #[v] w fun e w'=>∃ v',e=O v'/\Row w' (ext o w tg) tg 195 2 v' n xs/\Ae w w w':=by
 obtain⟨i,hi,hs,hb,hz⟩:=Xa;rcases h.own.2 with⟨rfl,rfl⟩|⟨g,cap,cur,rfl,_⟩
 ·have hx:xs=[]:=Ad (by simpa using h.len)
  subst hx;refine (AnyE.slices_Clone_nil tb 0 0 w).mono ?_;rintro e w'⟨rfl,rfl⟩;exact⟨_,rfl,Row.nil _ _ _ _ _,qd _⟩
 ·refine (AnyE.slices_Clone tb i _ 2 16 hi hz hs hb rfl (by decide) sizeOf195 g 0 n cap xs w h.len (by simp only[maxLen];omega) (by omega) (fun j u hu=>?_) h1).mono ?_
  ·have:=h.own.cells (g:=g) rfl j u hu
   rw[ag];rwa [show (⟨g,0,none⟩:Addr).add j=⟨g,j,none⟩ from by unfold Addr.add;split<;>simp_all]at this
  ·rintro e w'⟨v',rfl,ho,_,hb⟩
   exact⟨v',rfl,cg ho,hb⟩
def qm7 (h:Row w o t 198 4 v n xs)(hn:n<=100000)(h1:∀ u ∈ xs,u.oneCell'=true)(tg:Tag) :
  Ab ANa 236 #[v] w fun e w'=>∃ v',e=O v'/\Row w' (ext o w tg) tg 198 4 v' n xs/\Ae w w w':=by
 obtain⟨i,hi,hs,hb,hz⟩:=W8;rcases h.own.2 with⟨rfl,rfl⟩|⟨g,cap,cur,rfl,_⟩
 ·have hx:xs=[]:=Ad (by simpa using h.len)
  subst hx;refine (AnyE.slices_Clone_nil tf 0 0 w).mono ?_;rintro e w'⟨rfl,rfl⟩;exact⟨_,rfl,Row.nil _ _ _ _ _,qd _⟩
 ·refine (AnyE.slices_Clone tf i _ 4 32 hi hz hs hb rfl (by decide) sizeOf198 g 0 n cap xs w h.len (by simp only[maxLen];omega) (by omega) (fun j u hu=>?_) h1).mono ?_
  ·have:=h.own.cells (g:=g) rfl j u hu
   rw[ag];rwa [show (⟨g,0,none⟩:Addr).add j=⟨g,j,none⟩ from by unfold Addr.add;split<;>simp_all]at this
  ·rintro e w'⟨v',rfl,ho,_,hb⟩
   exact⟨v',rfl,cg ho,hb⟩
def T3 (h:Row w o t 3 1 v n xs)(hn:n<=100000)(h1:∀ u ∈ xs,u.oneCell'=true)(tg:Tag) :
  Ab ANa 49 #[v] w fun e w'=>∃ v',e=O v'/\Row w' (ext o w tg) tg 3 1 v' n xs/\Ae w w w':=by
 obtain⟨i,hi,hs,hb,hz⟩:=zm;rcases h.own.2 with⟨rfl,rfl⟩|⟨g,cap,cur,rfl,_⟩
 ·have hx:xs=[]:=Ad (by simpa using h.len)
  subst hx;refine (Tryz.slices_Clone_nil 0 0 w).mono ?_;rintro e w'⟨rfl,rfl⟩;exact⟨_,rfl,Row.nil _ _ _ _ _,qd _⟩
 ·refine (Tryz.slices_Clone i _ 1 8 hi hz hs hb rfl (by decide) sizeOf3 g 0 n cap xs w h.len (by simp only[maxLen];omega) (by omega) (fun j u hu=>?_) h1).mono ?_
  ·have:=h.own.cells (g:=g) rfl j u hu
   rw[ag];rwa [show (⟨g,0,none⟩:Addr).add j=⟨g,j,none⟩ from by unfold Addr.add;split<;>simp_all]at this
  ·rintro e w'⟨v',rfl,ho,_,hb⟩
   exact⟨v',rfl,cg ho,hb⟩
def gv (ps:List Nat)(h:Row w o t 3 1 v ps.length (ps.map nv))(hl:ps.length<=100000)(x:Nat)(z:Int)(hz:z=x) :
  Ab ANa 231 #[v,z] w fun e w'=>e=O (.bool (decide (x ∈ ps)))/\w=w':=by
 subst hz;rcases h.form with⟨rfl,h0⟩|⟨g,cap,rfl,hn,hc,_,_⟩
 ·have:ps=[]:=Ad h0
  subst this;refine (Tryz.slices_Contains_int_empty none 0 x w).mono ?_;rintro e w'⟨rfl,rfl⟩;exact⟨by simp,rfl⟩
 ·refine (Tryz.slices_Contains_int g 0 ps.length cap (ps.map fun (p:Nat)=>(p:Int)) x w (by simp) (by omega) ?_).mono ?_
  ·intro j hj
   have hj':j<ps.length:=by simpa using hj
   rw[ag];refine h.cells j _ ?_;rw[Qj,Qb hj'];simp[nv,aj,Qb hj']
  ·rintro e w'⟨rfl,rfl⟩
   rw[List.take_of_length_le (by simp)]
   refine⟨?_,rfl⟩;have e:((ps.map fun (p:Nat)=>(p:Int)).contains (x:Int))=decide (x ∈ ps):=by
    rw[ai];simp only[List.contains_eq_mem,Qt,decide_eq_true_eq];exact⟨fun⟨a,ha,e⟩=>by rw[show x=a by omega];exact ha,fun h=>⟨x,h,rfl⟩⟩
   rw[e]
end
end
section
open Go.RowKit Hp
attribute [local go_sem ↓] Go.wp_at_zero Go.wp_at_succ
structure Un where
 kind:Nat
 pos:Nat
 i:Nat
 old:Int
structure Lg where
 mr:Nat
 mu:Nat
 reads:List Nat
 keeps:List Nat
 holds:List (Nat×Nat)
 Az:List Un
structure Lg.ok (L:Lg):Prop where
 mr:L.mr<=200
 mu:L.mu<=200
 r:L.reads.length<=L.mr
 k:L.keeps.length<=L.mr
 h:L.holds.length<=L.mu
 u:L.Az.length<=L.mu
def qh:List (Nat×Nat)->List Ac
 | []=>[]
 | x::l=>nv x.1::nv x.2::qh l
def qz:List Un->List Ac
 | []=>[]
 | x::l=>nv x.kind::nv x.pos::nv x.i::I Z x.old::qz l
def bf (l:List (Nat×Nat))(x:Nat×Nat):qh (l++[x])=qh l++[nv x.1,nv x.2]:=by
 induction l with
 | nil=>rfl
 | cons y l ih=>simp[qh,ih]
def qkx (l:List Un)(x:Un):qz (l++[x])=qz l++[nv x.kind,nv x.pos,nv x.i,I Z x.old]:=by
 induction l with
 | nil=>rfl
 | cons y l ih=>simp[qz,ih]
def uo (l:List (Nat×Nat)):∀ u ∈ qh l,u.oneCell'=true:=by
 induction l with
 | nil=>intro u hu;simp[qh]at hu
 | cons y l ih =>
  intro u hu;simp only[qh,ay]at hu;rcases hu with rfl|rfl|hu
  ·rfl
  ·rfl
  ·exact ih u hu
def Wa (l:List Un):∀ u ∈ qz l,u.oneCell'=true:=by
 induction l with
 | nil=>intro u hu;simp[qz]at hu
 | cons y l ih =>
  intro u hu;simp only[qz,ay]at hu;rcases hu with rfl|rfl|rfl|rfl|hu
  ·rfl
  ·rfl
  ·rfl
  ·rfl
  ·exact ih u hu
def Mt (l:List Nat):∀ u ∈ l.map nv,u.oneCell'=true:=by
 intro u hu;obtain⟨x,_,rfl⟩:=Qt.1 hu;rfl
def y7 (l:List (Nat×Nat))(i:Nat)(x:Nat×Nat)(h:l[i]?=some x):(qh l)[2*i]?=some (nv x.1)/\(qh l)[2*i+1]?=some (nv x.2):=by
 induction l generalizing i with
 | nil=>simp at h
 | cons y l ih =>
  cases i with
  | zero=>simp at h;subst h;simp[qh]
  | succ i =>
   simp at h;have:=ih i h;rw[show 2*(i+1)=2*i+2 from by omega]
   simpa [qh] using this
def Xj (l:List Un)(i:Nat)(x:Un)(h:l[i]?=some x):(qz l)[4*i]?=some (nv x.kind)/\(qz l)[4*i+1]?=some (nv x.pos)/\(qz l)[4*i+2]?=some (nv x.i)/\(qz l)[4*i+3]?=some (I Z x.old):=by
 induction l generalizing i with
 | nil=>simp at h
 | cons y l ih =>
  cases i with
  | zero=>simp at h;subst h;simp[qz]
  | succ i =>
   simp at h;have:=ih i h;rw[show 4*(i+1)=4*i+4 from by omega]
   simpa [qz] using this
structure BV (w:Aa)(o:Own)(id k b:Nat)(L:Lg)(vr vk vh vu:Ac):Prop where
 A3:An w b #[L.mr,L.mu,vr,vk,vh,vu] 153
 rr:Row w o (id,k+1) 3 1 vr L.reads.length (L.reads.map nv)
 rk:Row w o (id,k+2) 3 1 vk L.keeps.length (L.keeps.map nv)
 rh:Row w o (id,k+3) 195 2 vh L.holds.length (qh L.holds)
 ru:Row w o (id,k+4) 198 4 vu L.Az.length (qz L.Az)
 ob:o b=(id,k)
def BV.below {w w':Aa}{o:Own}{id k b:Nat}{L:Lg}{vr vk vh vu:Ac}(h:BV w o id k b L vr vk vh vu)(hb:Ae w w w'):BV w' o id k b L vr vk vh vu:=
 ⟨h.A3.below hb h.A3.lt,h.rr.below hb,h.rk.below hb,h.rh.below hb,h.ru.below hb,h.ob⟩
def BV.Ar {T:Tag->Prop}{w w':Aa}{o o':Own}{id k b:Nat}{L:Lg}{vr vk vh vu:Ac}(h:BV w o id k b L vr vk vh vu)(hs:Stp T o o' w w')(hn:∀ j,j<=4->¬T (id,k+j)):BV w' o' id k b L vr vk vh vu:=
 ⟨h.A3.Ar hs (by rw[h.ob];exact hn 0 (by omega)),h.rr.Ar hs (hn 1 (by omega)),h.rk.Ar hs (hn 2 (by omega)),h.rh.Ar hs (hn 3 (by omega)),h.ru.Ar hs (hn 4 (by omega)),(hs.tags _ h.A3.lt).trans h.ob⟩
section
variable {w : Aa} {o : Own} {t0 tg : Tag} {b k : Nat} {cs : Array Ac} {v : Ac} {ps : List Nat}
def MA (hb:An w b cs 153)(hv:cs[k]?=some v)(hr:Row w o tg 3 1 v ps.length (ps.map nv))(hl:ps.length<=4096)(p m:Nat)(hp:p ∈ ps) :
  Ab ANa 207 #[Ah (some ⟨b,k,none⟩),p,m] w fun e w'=>e=O (.bool true)/\w=w':=by
 have HC:=Qa (gv ps hr (by omega) p p rfl)
 rw[decide_eq_true hp]at HC;have c:w.cell? ⟨b,k,none⟩=some v:=by rw[hb.cell];exact hv
 clear hb hv hr hp hl;go_in;go_wp2_with fail;refine HC.o.mono ?_
 rintro e w1 ⟨rfl,rfl⟩
 go_wp2_with fail;go_ret;exact⟨rfl,rfl⟩
def qpm (hb:An w b cs 153)(hv:cs[k]?=some v)(hr:Row w o tg 3 1 v ps.length (ps.map nv))(hl:ps.length<=4096)(p m:Nat)(hp:p ∉ ps)(hm:m<=ps.length) :
  Ab ANa 207 #[Ah (some ⟨b,k,none⟩),p,m] w fun e w'=>e=O (.bool false)/\w=w':=by
 have HC:=Qa (gv ps hr (by omega) p p rfl)
 rw[decide_eq_false hp]at HC;have c:w.cell? ⟨b,k,none⟩=some v:=by rw[hb.cell];exact hv
 obtain⟨pa,cp,rfl⟩:=hr.A6;have nY:(m:Int)<=(ps.length:Int):=by omega
 clear hb hv hr hp hl;go_in;go_wp2_with fail;refine HC.o.mono ?_
 rintro e w1 ⟨rfl,rfl⟩
 go_wp2_with fail;go_ret;exact⟨rfl,rfl⟩
def JS (hb:An w b cs 153) (hv:cs[k]?=some v) (hr:Row w o tg 3 1 v ps.length (ps.map nv)) (hl:ps.length<=4096) (p m:Nat) (hp:p ∉ ps) (hm:ps.length<m) (ht:o b=t0) (hne:t0≠tg) :
  Ab ANa 207 #[Ah (some ⟨b,k,none⟩),p,m] w fun e w'=>e=O (.bool true) /\
   ∃ v' o',An w' b (cs.setIfInBounds k v') 153/\Row w' o' tg 3 1 v' (ps++[p]).length ((ps++[p]).map nv)/\Stp (fun t=>t=t0\/t=tg) o o' w w':=by
 have HC:=Qa (gv ps hr (by omega) p p rfl)
 rw[decide_eq_false hp]at HC;have c:w.cell? ⟨b,k,none⟩=some v:=by rw[hb.cell];exact hv
 have s:=hb.lt;have z:=hb.free k;have nY:(ps.length:Int)<(m:Int):=by omega
 obtain⟨iI,hi,hsI,cK,bZ⟩:=zm;have hu64:=underlying23;have hw:=Qa (Ps hl);obtain⟨pa0,nV,rfl⟩:=hr.A6;clear hm hl;go_in;go_wp2_with fail;refine HC.o.mono ?_
 rintro e w1 ⟨rfl,rfl⟩
 go_wp2_with (first|(at_builtin;refine qg _ rfl _ _ _ rfl 3 iI _ 1 8 hu64 hi bZ hsI cK rfl (by decide) o tg _ _ _ rfl (Row.below hr (qc (qd w) _)) ⟨w,0,none⟩ 1 1 [I Z p] rfl rfl (qx (An.new w _ _)) jh hw.o.1 hw.o.2 ?_;intro v' w8 hown hst;obtain⟨pa,cp,rfl⟩:=hown.A6;have j8:=(hb.alloc (ANb #[p] 3)).Ar hst (by rw[ht];exact hne);have c8:w8.cell? ⟨b,k,none⟩=some (.slice pa0 ps.length nV):=(by rw[j8.cell];exact hv);have z8:=j8.free k;have s8:=j8.lt)|fail)
 go_ret;have k8:=Stp.setCell (T:=fun t=>t=t0) (Stp.refl _ (ext o (w.alloc (ANb #[p] 3)).1.size tg) w8) (a:=⟨b,k,none⟩) (by show ext o _ _ b=_;rw[qk (hb.alloc (ANb #[p] 3)).lt];exact ht) (.slice pa (ps.length+1) cp)
 refine⟨rfl,_,_,j8.set k _,?_,(((Stp.of_below (T:=fun t=>t=tg) (qc (qd w) (ANb #[p] 3))).trans hst).mono fun _ e=>Or.inr e).trans (k8.mono fun _ e=>Or.inl e)⟩
 simpa [nv] using hown.Ar k8 (fun e=>hne e.symm)
end
def wv (l:List Nat)(p m:Nat):List Nat:=if p ∈ l then l else if l.length<m then l++[p] else l
def yn (l:List Nat)(p m:Nat):Bool:=decide (p ∈ l\/l.length<m)
section
variable {w : Aa} {o : Own} {id k b : Nat} {L : Lg} {vr vk vh vu : Ac}
def Xk (cs:Array Ac)(j:Nat)(v:Ac)(ps:List Nat)(t0 tg:Tag)(hb:An w b cs 153)(hv:cs[j]?=some v)(hr:Row w o tg 3 1 v ps.length (ps.map nv))(hl:ps.length<=4096)(p m:Nat)(ht:o b=t0)(hne:t0≠tg) :
  Ab ANa 207 #[Ah (some ⟨b,j,none⟩),p,m] w fun e w'=>e=O (.bool (yn ps p m)) /\
   ∃ v' o',An w' b (cs.setIfInBounds j v') 153/\Row w' o' tg 3 1 v' (wv ps p m).length ((wv ps p m).map nv)/\Stp (fun t=>t=t0\/t=tg) o o' w w':=by
 have hcs:(cs.setIfInBounds j v)=cs:=by
  apply Array.ext_getElem?;intro i;rw[Array.getElem?_setIfInBounds];split
  ·rename_i e;subst e
   split
   ·exact hv.symm
   ·rename_i e2;rw[Array.getElem?_eq_none (by omega)]
  ·rfl
 unfold yn wv;by_cases hp:p ∈ ps
 ·rw[if_pos hp,decide_eq_true (Or.inl hp)]
  refine (MA hb hv hr hl p m hp).mono ?_;rintro e w' ⟨rfl,rfl⟩;exact⟨rfl,v,o,by rw[hcs];exact hb,hr,Stp.refl _ _ _⟩
 ·rw[if_neg hp]
  by_cases hm:ps.length<m
  ·rw[if_pos hm,decide_eq_true (Or.inr hm)]
   exact JS hb hv hr hl p m hp hm ht hne
  ·rw[if_neg hm,decide_eq_false (fun e=>e.elim hp hm)]
   refine (qpm hb hv hr hl p m hp (by omega)).mono ?_
   rintro e w' ⟨rfl,rfl⟩;exact⟨rfl,v,o,by rw[hcs];exact hb,hr,Stp.refl _ _ _⟩
def JE (h:BV w o id k b L vr vk vh vu) (hk:L.ok) (p:Nat) :
  Ab ANa 206 #[Ah (some ⟨b,0,none⟩),p] w fun e w'=>e=O (.bool (yn L.reads p L.mr)) /\
   ∃ nM o',BV w' o' id k b { L with reads:=wv L.reads p L.mr } nM vk vh vu/\Stp (fun t=>t=(id,k)\/t=(id,k+1)) o o' w w':=by
 have HN:=Qa (Xk (w:=w.drew) _ 2 _ L.reads (id,k) (id,k+1) (qj h.A3) rfl (h.rr.below (qf (qd w))) (by have:=hk.r;have:=hk.mr;omega) p L.mr h.ob (by simp))
 have HI:=Qa h;have c:=h.A3.cell;generalize yn L.reads p L.mr=bb at *;clear h hk;go_in;go_upto_region 1 with fail;go_still_tail 11,(by kernel_rfl)
 change wpList _ _ _ _ _ w.drew;go_wp2_with fail;refine HN.o.mono ?_
 rintro e w1 ⟨rfl,v',o',hb,hr,hs⟩
 go_wp2_with fail;go_ret;have hs':Stp (fun t=>t=(id,k)\/t=(id,k+1)) o o' w w1:=(Stp.of_below (qf (qd w))).trans hs
 have h:=HI.o;exact⟨rfl,v',o',⟨hb,hr,h.rk.Ar hs' (by simp),h.rh.Ar hs' (by simp),h.ru.Ar hs' (by simp),(hs'.tags _ h.A3.lt).trans h.ob⟩,hs'⟩
def JD (h:BV w o id k b L vr vk vh vu) (hk:L.ok) (p:Nat) :
  Ab ANa 153 #[Ah (some ⟨b,0,none⟩),p] w fun e w'=>e=O (.bool (yn L.keeps p L.mr)) /\
   ∃ vk' o',BV w' o' id k b { L with keeps:=wv L.keeps p L.mr } vr vk' vh vu/\Stp (fun t=>t=(id,k)\/t=(id,k+2)) o o' w w':=by
 have HN:=Qa (Xk (w:=w.drew) _ 3 _ L.keeps (id,k) (id,k+2) (qj h.A3) rfl (h.rk.below (qf (qd w))) (by have:=hk.k;have:=hk.mr;omega) p L.mr h.ob (by simp))
 have HI:=Qa h;have c:=h.A3.cell;generalize yn L.keeps p L.mr=bb at *;clear h hk;go_in;go_upto_region 1 with fail;go_still_tail 11,(by kernel_rfl)
 change wpList _ _ _ _ _ w.drew;go_wp2_with fail;refine HN.o.mono ?_
 rintro e w1 ⟨rfl,v',o',hb,hr,hs⟩
 go_wp2_with fail;go_ret;have hs':Stp (fun t=>t=(id,k)\/t=(id,k+2)) o o' w w1:=(Stp.of_below (qf (qd w))).trans hs
 have h:=HI.o;exact⟨rfl,v',o',⟨hb,h.rr.Ar hs' (by simp),hr,h.rh.Ar hs' (by simp),h.ru.Ar hs' (by simp),(hs'.tags _ h.A3.lt).trans h.ob⟩,hs'⟩
def qqo (h:BV w o id k b L vr vk vh vu)(hk:L.ok)(tg:Tag) :
  Ab ANa 140 #[Ah (some ⟨b,0,none⟩)] w fun e w'=>∃ v',e=O v'/\Row w' (ext o w tg) tg 3 1 v' L.reads.length (L.reads.map nv)/\Ae w w w':=by
 have HN:=Qa (T3 h.rr (by have:=hk.r;have:=hk.mr;omega) (Mt _) tg)
 have c:=h.A3.cell;clear h hk;go_in;go_wp2_with fail;refine HN.o.mono ?_
 rintro e w1 ⟨v',rfl,hr,hb⟩
 go_wp2_with fail;go_ret;exact⟨_,rfl,hr,hb⟩
def T5 (h:BV w o id k b L vr vk vh vu)(hk:L.ok)(tg:Tag) :
  Ab ANa 138 #[Ah (some ⟨b,0,none⟩)] w fun e w'=>∃ v',e=O v'/\Row w' (ext o w tg) tg 195 2 v' L.holds.length (qh L.holds)/\Ae w w w':=by
 have HN:=Qa (qm3 h.rh (by have:=hk.h;have:=hk.mu;omega) (uo _) tg)
 have c:=h.A3.cell;clear h hk;go_in;go_wp2_with fail;refine HN.o.mono ?_
 rintro e w1 ⟨v',rfl,hr,hb⟩
 go_wp2_with fail;go_ret;exact⟨_,rfl,hr,hb⟩
def qqn (h:BV w o id k b L vr vk vh vu)(hk:L.ok)(tg:Tag) :
  Ab ANa 212 #[Ah (some ⟨b,0,none⟩)] w fun e w'=>∃ v',e=O v'/\Row w' (ext o w tg) tg 198 4 v' L.Az.length (qz L.Az)/\Ae w w w':=by
 have HN:=Qa (qm7 h.ru (by have:=hk.u;have:=hk.mu;omega) (Wa _) tg)
 have c:=h.A3.cell;clear h hk;go_in;go_wp2_with fail;refine HN.o.mono ?_
 rintro e w1 ⟨v',rfl,hr,hb⟩
 go_wp2_with fail;go_ret;exact⟨_,rfl,hr,hb⟩
def qq2 (h:BV w o id k b L vr vk vh vu) :
  Ab ANa 195 #[Ah (some ⟨b,0,none⟩)] w fun e w'=>e=O (Ak #[])/\BV w' o id k b { L with reads:=[],keeps:=[],holds:=[],Az:=[] } (Ai none 0 0) (Ai none 0 0) (Ai none 0 0) (Ai none 0 0)/\Stp (fun t=>t=(id,k)) o o w w':=by
 have HI:=Qa h;have j:=h.A3;have c:=h.A3.cell;have z:=h.A3.free;have s:=h.A3.lt;clear h;go_in;go_wp2_with fail;go_end0;have bY:=HI.o.ob;refine⟨rfl,⟨(((j.set 2 _).set 3 _).set 4 _).set 5 _,Row.nil _ _ _ _ _,Row.nil _ _ _ _ _,Row.nil _ _ _ _ _,Row.nil _ _ _ _ _,bY⟩,?_⟩;exact ((((Stp.refl _ o w).setCell (by simpa using bY) _).setCell (by simpa using bY) _).setCell (by simpa using bY) _).setCell (by simpa using bY) _
end
end
section
open Go.RowKit Hp
structure Tx where
 live:Bool
 start:Nat
 seen:Nat
 log:Lg
 A0:List (Nat×Nat)
structure Am where
 H:Hp
 ph:Nat
 now:Nat
 most:Nat
 Au:List Tx
 queue:List (Nat×Nat)
 next:Nat
 Aw:Int
 version:Nat
 lost:List Nat
 came:List Nat
def jj (l:List Tx):Nat:=(l.filter (·.live)).length
def wa:List Tx->Nat
 | []=>0
 | x::l=>x.A0.length+wa l
def yr (v:Nat):Prop:=v%2=1->v/2<8
structure Lg.fit (L:Lg):Prop where
 ok:L.ok
 hv:∀ z ∈ L.holds,z.2<=1099511627776
 un:∀ u ∈ L.Az,-9223372036854775808<=u.old/\u.old<=9223372036854775807
 kd:∀ u ∈ L.Az,u.kind=1->0<=u.old
structure Am.ok (S:Am):Prop where
 H:S.H.wf
 n2:S.most<=1099511627776
 lv:S.now+jj S.Au<=S.most
 t1:1<=S.Au.length
 t8:S.Au.length<=8
 lg:∀ x ∈ S.Au,x.log.fit
 st:∀ x ∈ S.Au,x.start<=S.now
 ve:S.version<=S.now
 ho:-1<=S.Aw/\S.Aw<=8
 sc:∀ x ∈ S.H.cur,yr x.2.second
 so:∀ x ∈ S.H.old,yr x.2.1.second
 qu:S.queue.length+wa S.Au<=S.next
 nx:S.next+S.H.final.length<=S.H.Ap
 cm:S.came.length<=S.next
 se:∀ x ∈ S.Au,x.seen<=S.next
 ph:S.ph<=2/\(S.ph=0↔S.H.AK=false)
def Am.ok.n1 {S:Am}(h:S.ok):S.now<=S.most:=by have:=h.lv;omega
def Am.ok.Lh {S:Am}(h:S.ok):S.next<=1099511627776:=by have:=h.nx;have:=h.H.ok.Bc;omega
structure Bl where
 sb:Nat
 l:Bn
 cy:Nat
 ck:Nat
 FE:Ac
 xb:Nat->Nat
 lb:Nat->Nat
abbrev ptr (b:Nat):Ac:=Ah (some ⟨b,0,none⟩)
def zj (i:Nat)(x:Tx)(lb:Nat)(vt:Ac):Array Ac:=#[i,.bool x.live,x.start,x.seen,ptr lb,vt]
structure Fh (w:Aa)(o:Own)(id i xb lb:Nat)(x:Tx):Prop where
 A3:∃ vt,An w xb (zj i x lb vt) 105/\Row w o (id,22+8*i) 118 2 vt x.A0.length (qh x.A0)
 log:∃ vr vk vh vu,BV w o id (17+8*i) lb x.log vr vk vh vu
 ob:o xb=(id,16+8*i)
def Y8 (cy:Nat)(n:Nat):Ac:=if n=1 then .func (.func 75) #[ptr cy] #[] else .func (.func 121) #[ptr cy] #[]
def YQ (y:Bl)(vp:Ac):Array Ac:=#[ptr y.l.h,vp,Ai none 0 0,Ai none 0 0]
def B1 (w:Aa)(o:Own)(l:Bn)(H:Hp):Prop:=∃ vc vo vw vf f,AN w o l H vc vo vw vf f
def qm (y:Bl)(S:Am)(vq vl vm:Ac):Array Ac:=
 #[ptr y.l.h,ptr y.cy,ptr y.ck,y.FE,vq,S.next,S.Aw,S.version,vl,vm]
structure Cy (w:Aa)(o:Own)(id:Nat)(S:Am)(vq vl vm:Ac):Prop where
 q:Row w o (id,13) 118 2 vq S.queue.length (qh S.queue)
 l:Row w o (id,14) 3 1 vl S.lost.length (S.lost.map nv)
 m:Row w o (id,15) 3 1 vm S.came.length (S.came.map nv)
def FR (cy:Nat)(n:Nat):Ac:=if n=0 then .nilFunc else Y8 cy n
structure Av (w:Aa)(o:Own)(y:Bl)(S:Am):Prop where
 A3:∃ vq vl vm,An w y.sb (qm y S vq vl vm) 100/\Cy w o y.l.id S vq vl vm
 cy:An w y.cy (YQ y (FR y.cy S.ph)) 143
 hp:B1 w o y.l S.H
 ck:An w y.ck #[S.now,S.most] 149
 ED:Row w o (y.l.id,12) 101 1 y.FE S.Au.length ((List.range S.Au.length).map fun i=>ptr (y.xb i))
 Au:∀ i x,S.Au[i]?=some x->Fh w o y.l.id i (y.xb i) (y.lb i) x
 oc:o y.ck=(y.l.id,10)
 os:o y.sb=(y.l.id,11)
 oy:o y.cy=(y.l.id,7)
def AN.Ar {T:Tag->Prop}{w w':Aa}{o o':Own}{l:Bn}{H:Hp}{vc vo vw vf:Ac}{f:Nat->Nat}(h:AN w o l H vc vo vw vf f)(hs:Stp T o o' w w')(hn:∀ j,j<=6->¬T (l.id,j)):AN w' o' l H vc vo vw vf f:=
 ⟨h.hb.Ar hs (by rw[h.oh];exact hn 0 (by omega)),h.Cr.Ar hs (by rw[h.oa];exact hn 1 (by omega)) (by rw[h.ow];exact hn 2 (by omega)),
  h.rc.Ar hs (hn _ (by split<;>omega)),h.ro.Ar hs (hn _ (by split<;>omega)),h.rw.Ar hs (hn 5 (by omega)),h.rf.Ar hs (hn 6 (by omega)),
  (hs.tags _ h.hb.lt).trans h.oh,(hs.tags _ h.Cr.Cm.lt).trans h.oa,(hs.tags _ h.Cr.lt).trans h.ow,h.Fb,h.Ch,h.zr⟩
def B1.Ar {T:Tag->Prop}{w w':Aa}{o o':Own}{l:Bn}{H:Hp}(h:B1 w o l H)(hs:Stp T o o' w w')(hn:∀ j,j<=6->¬T (l.id,j)):B1 w' o' l H:=by
 obtain⟨vc,vo,vw,vf,f,h⟩:=h;exact⟨vc,vo,vw,vf,f,h.Ar hs hn⟩
def Fh.Ar {T:Tag->Prop}{w w':Aa}{o o':Own}{id i xb lb:Nat}{x:Tx}(h:Fh w o id i xb lb x)(hs:Stp T o o' w w')(hn:∀ j,j<=7->¬T (id,16+8*i+j)):Fh w' o' id i xb lb x:=by
 obtain⟨vr,vk,vh,vu,hl⟩:=h.log;obtain⟨vt,hb,hr⟩:=h.A3;refine⟨⟨vt,hb.Ar hs (by rw[h.ob];exact hn 0 (by omega)),hr.Ar hs ?_⟩,⟨vr,vk,vh,vu,hl.Ar hs fun j hj=>?_⟩,(hs.tags _ hb.lt).trans h.ob⟩
 ·have:=hn 6 (by omega)
  rwa [show 16+8*i+6=22+8*i from by omega]at this
 ·have:=hn (1+j) (by omega)
  rwa [show 16+8*i+(1+j)=17+8*i+j from by omega]at this
def Cy.Ar {T:Tag->Prop}{w w':Aa}{o o':Own}{id:Nat}{S:Am}{vq vl vm:Ac}(h:Cy w o id S vq vl vm)(hs:Stp T o o' w w')(hn:∀ j,13<=j->j<=15->¬T (id,j)):Cy w' o' id S vq vl vm:=
 ⟨h.q.Ar hs (hn 13 (by omega) (by omega)),h.l.Ar hs (hn 14 (by omega) (by omega)),h.m.Ar hs (hn 15 (by omega) (by omega))⟩
section
variable {w w' : Aa} {o o' : Own} {y : Bl} {S : Am}
def Av.lt (h:Av w o y S):y.sb<w.1.size:=by obtain⟨_,_,_,hb,_⟩:=h.A3;exact hb.lt
def Av.Ar {T:Tag->Prop}(h:Av w o y S)(hs:Stp T o o' w w')(hn:∀ j,¬T (y.l.id,j)):Av w' o' y S:=by
 obtain⟨vq,vl,vm,hb,hr⟩:=h.A3;exact⟨⟨vq,vl,vm,hb.Ar hs (by rw[h.os];exact hn _),hr.Ar hs fun j _ _=>hn j⟩,h.cy.Ar hs (by rw[h.oy];exact hn _),h.hp.Ar hs fun j _=>hn j,h.ck.Ar hs (by rw[h.oc];exact hn _),h.ED.Ar hs (hn _),fun i x hx=>(h.Au i x hx).Ar hs fun j _=>hn _,(hs.tags _ h.ck.lt).trans h.oc,(hs.tags _ h.lt).trans h.os,(hs.tags _ h.cy.lt).trans h.oy⟩
def Av.below (h:Av w o y S)(hb:Ae w w w'):Av w' o y S:=h.Ar (T:=fun _=>False) (Stp.of_below hb) fun _ h=>h
def Av.retag (h:Av w o y S)(he:∀ b,b<w.1.size->o' b=o b):Av w o' y S:=
 h.Ar (T:=fun _=>False) ⟨rfl,rfl,rfl,Qk _,he,fun _ _ _=>rfl⟩ fun _ h=>h
def Av.box (h:Av w o y S){a:Addr}(ht:o a.block=(y.l.id+1,0))(v:Ac):Av (w.setCell a v) o y S:=
 h.Ar (T:=fun t=>t=(y.l.id+1,0)) ((Stp.refl _ o w).setCell ht v) fun j=>by simp
def Av.alloc (h:Av w o y S)(x:Obj):Av (w.alloc x) o y S:=h.below (qc (qd w) x)
def Av.heap (h:Av w o y S){H':Hp}(hh:B1 w' o' y.l H')(hs:Stp (zg y.l) o o' w w'):Av w' o' y { S with H:=H' }:=by
 obtain⟨vq,vl,vm,hb,hr⟩:=h.A3;have hn:∀ j,7<=j->¬zg y.l (y.l.id,j):=fun j hj hh=>by have:=hh.2;simp at this;omega
 exact⟨⟨vq,vl,vm,hb.Ar hs (by rw[h.os];exact hn _ (by omega)),(hr.Ar hs fun j _ _=>hn j (by omega):Cy w' o' y.l.id S vq vl vm).1,(hr.Ar hs fun j _ _=>hn j (by omega):Cy w' o' y.l.id S vq vl vm).2,(hr.Ar hs fun j _ _=>hn j (by omega):Cy w' o' y.l.id S vq vl vm).3⟩,h.cy.Ar hs (by rw[h.oy];exact hn _ (by omega)),hh,h.ck.Ar hs (by rw[h.oc];exact hn _ (by omega)),h.ED.Ar hs (hn _ (by omega)),fun i x hx=>(h.Au i x hx).Ar hs fun j _=>hn _ (by omega),(hs.tags _ h.ck.lt).trans h.oc,(hs.tags _ h.lt).trans h.os,(hs.tags _ h.cy.lt).trans h.oy⟩
def ux (y:Bl)(i:Nat)(t:Tag):Prop:=t.1=y.l.id/\16+8*i<=t.2/\t.2<=23+8*i
def m7 {y:Bl}{i j:Nat}(h:j<16):¬ux y i (y.l.id,j):=fun hh=>by have:=hh.2.1;simp at this;omega
def ug:∀ (l:List Tx)(i:Nat)(x z:Tx),l[i]?=some z->wa (l.set i x)+z.A0.length=wa l+x.A0.length
 | [],i,x,z,h=>by simp at h
 | q::l,0,x,z,h=>by simp at h;subst h;simp[wa];omega
 | q::l,i+1,x,z,h=>by
  have:=ug l i x z (by simpa using h)
  simp[wa];omega
def kr (q:Tx)(l:List Tx):jj (q::l)=(if q.live then 1 else 0)+jj l:=by
 unfold jj;rw[List.filter_cons];split
 ·rw[Qv];omega
 ·omega
def y9:∀ (l:List Tx)(i:Nat)(x z:Tx),l[i]?=some z->jj (l.set i x)+(if z.live then 1 else 0)=jj l+if x.live then 1 else 0
 | [],i,x,z,h=>by simp at h
 | q::l,0,x,z,h=>by
  simp at h;subst h;rw[List.set_cons_zero,kr,kr];omega
 | q::l,i+1,x,z,h=>by
  have:=y9 l i x z (by simpa using h)
  rw[List.set_cons_succ,kr,kr];omega
def Av.tx (h:Av w o y S){i:Nat}{x':Tx}(hx':Fh w' o' y.l.id i (y.xb i) (y.lb i) x')(hs:Stp (ux y i) o o' w w'):Av w' o' y { S with Au:=S.Au.set i x' }:=by
 obtain⟨vq,vl,vm,hb,hr⟩:=h.A3;refine⟨⟨vq,vl,vm,hb.Ar hs (by rw[h.os];exact m7 (by omega)),?_⟩,h.cy.Ar hs (by rw[h.oy];exact m7 (by omega)),h.hp.Ar hs fun j hj=>m7 (by omega),h.ck.Ar hs (by rw[h.oc];exact m7 (by omega)),?_,fun j x hx=>?_,(hs.tags _ h.ck.lt).trans h.oc,(hs.tags _ h.lt).trans h.os,(hs.tags _ h.cy.lt).trans h.oy⟩
 ·have hr':=hr.Ar hs fun j _ _=>m7 (by omega)
  exact⟨hr'.q,hr'.l,hr'.m⟩
 ·show Row w' o' _ _ 1 y.FE (S.Au.set i x').length _
  rw[Qq];exact h.ED.Ar hs (m7 (by omega))
 ·simp only[Qr]at hx
  split at hx
  ·rename_i e;subst e
   split at hx
   ·injection hx with hx;subst hx;exact hx'
   ·cases hx
  ·rename_i e
   exact (h.Au j x hx).Ar hs fun k hk hh=>by have:=hh.2;simp at this;omega
def Av.clock (h:Av w o y S){n:Nat}(hc:An w' y.ck #[n,S.most] 149)(hs:Stp (fun t=>t=(y.l.id,10)) o o' w w'):Av w' o' y { S with now:=n }:=by
 obtain⟨vq,vl,vm,hb,hr⟩:=h.A3;have hn:∀ j,j≠10->¬(y.l.id,j)=(y.l.id,10):=fun j hj e=>hj (by simpa using e)
 have hr':=hr.Ar hs fun j _ _=>hn j (by omega)
 exact⟨⟨vq,vl,vm,hb.Ar hs (by rw[h.os];exact hn _ (by omega)),hr'.q,hr'.l,hr'.m⟩,h.cy.Ar hs (by rw[h.oy];exact hn _ (by omega)),h.hp.Ar hs fun j hj=>hn _ (by omega),hc,h.ED.Ar hs (hn _ (by omega)),fun i x hx=>(h.Au i x hx).Ar hs fun j _=>hn _ (by omega),(hs.tags _ h.ck.lt).trans h.oc,(hs.tags _ h.lt).trans h.os,(hs.tags _ h.cy.lt).trans h.oy⟩
def kh (y:Bl)(t:Tag):Prop:=t.1=y.l.id/\(t.2=11\/t.2=13\/t.2=14\/t.2=15)
def ny {y:Bl}{j:Nat}(h1:j≠11)(h2:j≠13)(h3:j≠14)(h4:j≠15):¬kh y (y.l.id,j):=fun hh=>by have:=hh.2;simp at this;omega
def Av.own (h:Av w o y S){S':Am}(e1:S'.H=S.H)(e2:S'.ph=S.ph)(e3:S'.now=S.now)(e4:S'.most=S.most)(e5:S'.Au=S.Au)
  {vq vl vm:Ac}(hb:An w' y.sb (qm y S' vq vl vm) 100)(hr:Cy w' o' y.l.id S' vq vl vm)(hs:Stp (kh y) o o' w w'):Av w' o' y S':=by
 have hn:∀ j,j≠11->j≠13->j≠14->j≠15->¬kh y (y.l.id,j):=fun j a b c d=>ny a b c d
 exact⟨⟨vq,vl,vm,hb,hr⟩,by rw[e2];exact h.cy.Ar hs (by rw[h.oy];exact hn _ (by omega) (by omega) (by omega) (by omega)),by rw[e1];exact h.hp.Ar hs fun j hj=>hn _ (by omega) (by omega) (by omega) (by omega),
  by rw[e3,e4];exact h.ck.Ar hs (by rw[h.oc];exact hn _ (by omega) (by omega) (by omega) (by omega)),by rw[e5];exact h.ED.Ar hs (hn _ (by omega) (by omega) (by omega) (by omega)),fun i x hx=>(h.Au i x (by rw[<-e5];exact hx)).Ar hs fun j _=>hn _ (by omega) (by omega) (by omega) (by omega),
  (hs.tags _ h.ck.lt).trans h.oc,(hs.tags _ h.lt).trans h.os,(hs.tags _ h.cy.lt).trans h.oy⟩
def Av.Ep (h:Av w o y S)(i:Nat)(hi:i<S.Au.length):∃ g cap,y.FE=Ai (some ⟨g,0,none⟩) S.Au.length cap/\w.cell? ⟨g,i,none⟩=some (ptr (y.xb i))/\S.Au.length<=cap:=by
 rcases h.ED.form with ⟨_,h0⟩|⟨g,cap,e,hn,hc,_⟩
 ·omega
 ·refine⟨g,cap,e,?_,hn⟩
  have hr:=h.ED;rw[e]at hr;refine hr.cells i _ ?_;rw[Qj,List.getElem?_range hi];rfl
def qi (y:Bl)(t:Tag):Prop:=t.1=y.l.id
def qp (y:Bl):¬qi y (y.l.id+1,0):=by unfold qi;simp
def Sz {y:Bl}{i:Nat}{t:Tag}(h:ux y i t):qi y t:=h.1
def SG {y:Bl}{t:Tag}(h:zg y.l t):qi y t:=h.1
def mh {y:Bl}{t:Tag}(h:kh y t):qi y t:=h.1
def BM (y:Bl)(S:Am)(o:Own)(w w':Aa):Prop:=∃ o',Av w' o' y S/\Stp (qi y) o o' w w'
def Av.EJ (h:Av w o y S)(hb:Ae w w w'):BM y S o w w':=⟨o,h.below hb,Stp.of_below hb⟩
def Av.Ev (h:Av w o y S):BM y S o w w:=h.EJ (qd w)
end
def Am.t (S:Am)(i:Nat):Tx:=S.Au.getD i ⟨false,0,0,⟨0,0,[],[],[],[]⟩,[]⟩
def Am.AW {S:Am}{i:Nat}(h:i<S.Au.length):S.Au[i]?=some (S.t i):=by
 unfold Am.t;simp[aj,Qb h]
def Am.tx (S:Am)(i:Nat)(x:Tx):Am:={ S with Au:=S.Au.set i x }
def Am.CZ {S:Am}{i:Nat}(h:i<S.Au.length)(x:Tx):(S.tx i x).t i=x:=by
 unfold Am.t Am.tx;simp[aj,h]
def Am.FC (S:Am){i j:Nat}(h:i≠j)(x:Tx):(S.tx i x).t j=S.t j:=by
 unfold Am.t Am.tx;simp[aj,List.getElem?_set_ne h]
def Am.BA (S:Am)(i:Nat)(x:Tx):(S.tx i x).Au.length=S.Au.length:=by simp[Am.tx]
def Am.Se (S:Am)(i:Nat)(x z:Tx):(S.tx i x).tx i z=S.tx i z:=by simp[Am.tx,List.set_set]
def Am.MB {S:Am}(hk:S.ok){H':Hp}(h:H'.wf)(hs:∀ x ∈ H'.cur,yr x.2.second)(ho:∀ x ∈ H'.old,yr x.2.1.second)(hf:S.next+H'.final.length<=H'.Ap)(hm:H'.AK=S.H.AK):Am.ok { S with H:=H' }:=
 ⟨h,hk.n2,hk.lv,hk.t1,hk.t8,hk.lg,hk.st,hk.ve,hk.ho,hs,ho,hk.qu,hf,hk.cm,hk.se,by rw[hm];exact hk.ph⟩
def Am.Rr {S:Am}(hk:S.ok){i:Nat}{x x':Tx}(hx:S.Au[i]?=some x)(h1:x'.log.fit)(h2:x'.start<=S.now)(h3:x'.seen<=S.next)(h4:x'.live=x.live)(h5:x'.A0=x.A0):Am.ok (S.tx i x'):=by
 have hl:=y9 S.Au i x' x hx;have ht:=ug S.Au i x' x hx;rw[h4]at hl;rw[h5]at ht;have hmem:∀ z ∈ S.Au.set i x',z ∈ S.Au\/z=x':=fun z hz=>List.mem_or_eq_of_mem_set hz
 refine⟨hk.H,hk.n2,by have hl':=Nat.add_right_cancel hl;show S.now+jj (S.Au.set i x')<=S.most;rw[hl'];exact hk.lv,by simpa [Am.tx] using hk.t1,by simpa [Am.tx] using hk.t8,fun z hz=>?_,fun z hz=>?_,hk.ve,hk.ho,hk.sc,hk.so,by show S.queue.length+wa (S.Au.set i x')<=S.next;have:=hk.qu;omega,hk.nx,hk.cm,fun z hz=>?_,hk.ph⟩
 ·rcases hmem z hz with h|rfl
  ·exact hk.lg z h
  ·exact h1
 ·rcases hmem z hz with h|rfl
  ·exact hk.st z h
  ·exact h2
 ·rcases hmem z hz with h|rfl
  ·exact hk.se z h
  ·exact h3
end
section
open Go.RowKit Hp
attribute [local go_sem ↓] Go.wp_at_zero Go.wp_at_succ
def Hp.sec (H:Hp)(p:Nat):Nat:=match lk H.cur p with|some ob=>ob.second|none=>0
def Hp.Dg (H:Hp)(p:Nat):Nat×Nat:=match lk H.cur p with|some ob=>(ob.Ap,0)|none=>(0,70)
def Hp.Cs (H:Hp)(p i:Nat):Int×Nat:=match lk H.cur p with|none=>(0,70)|some ob=>match ob.nums[i]? with|none=>(0,71)|some n=>(n,0)
def we (i start v:Nat):Bool:=if v%2=1 then decide (v/2≠i) else decide (start<v/2)
def Am.ok.sec {S:Am}(hk:S.ok)(p:Nat):yr (S.H.sec p)/\S.H.sec p<=2199023255552:=by
 unfold Hp.sec;split
 ·rename_i ob hp;exact⟨hk.sc _ (zh hp),(hk.H.Ek hp).sec⟩
 ·exact⟨fun h=>by simp at h,by omega⟩
def Tj {l:List (Nat×Ob)}{p:Nat}{o:Ob}{P:Nat->Prop}(h:∀ x ∈ l,P x.2.second)(ho:P o.second):∀ x ∈ up l p o,P x.2.second:=by
 intro x hx;obtain⟨z,hz,rfl⟩:=Qt.1 hx;split
 ·exact ho
 ·exact h z hz
def Am.Dz {S:Am}(hk:S.ok){p:Nat}{ob dH:Ob}(hp:lk S.H.cur p=some ob)(ho:dH.ok)(hs:dH.AL=ob.AL)(h2:yr dH.second):Am.ok { S with H:={ S.H with cur:=up S.H.cur p dH } }:=
 Am.MB hk (PS hk.H hp ho hs) (Tj hk.sc h2) hk.so hk.nx rfl
def Am.DK {S:Am}(hk:S.ok)(p i q:Nat):Am.ok { S with H:=(S.H.Bj p i q).1 }:=by
 unfold Hp.Bj;split
 ·exact hk
 ·rename_i ob hp
  split
  ·exact hk
  ·rename_i hq
   split
   ·exact hk
   ·exact Am.Dz hk hp (Ob.Cw (hk.H.Ek hp) i q (PL hk.H.ok hq)) rfl (hk.sc _ (zh hp))
def Am.Eh {S:Am}(hk:S.ok)(p i:Nat){n:Int}(hn:-9223372036854775808<=n/\n<=9223372036854775807):Am.ok { S with H:=(S.H.BB p i n).1 }:=by
 unfold Hp.BB;split
 ·exact hk
 ·rename_i ob hp
  split
  ·exact hk
  ·exact Am.Dz hk hp (Ob.ET (hk.H.Ek hp) i n hn) rfl (hk.sc _ (zh hp))
def Am.CH {S:Am}(hk:S.ok)(p:Nat)(b:Bool):Am.ok { S with H:=(S.H.AX p b).1 }:=by
 unfold Hp.AX;split
 ·exact hk
 ·rename_i ob hp;exact Am.Dz hk hp (Ob.El (hk.H.Ek hp) b) rfl (hk.sc _ (zh hp))
def Am.CS {S:Am}(hk:S.ok)(p:Nat){v:Nat}(hv:v<=2199023255552)(h2:yr v):Am.ok { S with H:=(S.H.AM p v).1 }:=by
 unfold Hp.AM;split
 ·exact hk
 ·rename_i ob hp;exact Am.Dz hk hp (Ob.Ec (hk.H.Ek hp) v hv) rfl h2
def qlv {l:List (Nat×Ob×Option Nat)}{p q:Nat}(h:∀ x ∈ l,yr x.2.1.second):∀ x ∈ qw l p q,yr x.2.1.second:=by
 intro x hx;unfold qw at hx;obtain⟨z,hz,rfl⟩:=Qt.1 hx;split
 ·exact h z hz
 ·exact h z hz
def CC (H:Hp):Prop:=(∀ x ∈ H.cur,yr x.2.second)/\∀ x ∈ H.old,yr x.2.1.second
def Am.ok.E5 {S:Am}(hk:S.ok):CC S.H:=⟨hk.sc,hk.so⟩
def CC.AG {H:Hp}(h:CC H)(p:Nat):CC (H.AG p).1:=by
 unfold Hp.AG;split
 ·exact h
 ·exact h
 ·rename_i ob hp
  refine⟨fun x hx=>?_,qlv h.2⟩;rcases Qs.1 (show x ∈ H.cur++_ from hx) with hx|hx
  ·exact h.1 x hx
  ·rw[Zb.1 hx];exact h.2 _ (zy hp)
def CC.Ay:∀ (l:List Nat){H:Hp},CC H->CC (H.Ay l).1
 | [],_,h=>h
 | p::l,_,h=>CC.Ay l (h.AG p)
def Am.J2 {S:Am}(hk:S.ok)(p:Nat):Am.ok { S with H:=(S.H.AG p).1 }:=by
 have h:=yh (H:=S.H) p;exact Am.MB hk (Hp.Ez hk.H p) (hk.E5.AG p).1 (hk.E5.AG p).2 (by rw[h.2.2.2.2.2.2.1,h.2.2.2.2.1];exact hk.nx) h.2.2.1
def Am.Eg {S:Am}(hk:S.ok)(p i:Nat):Am.ok { S with H:=(S.H.AY p i).1 }:=by
 unfold Hp.AY;split
 ·exact hk
 ·rename_i ob hp
  split
  ·exact hk
  ·rename_i x hx
   split
   ·have h1:=Am.J2 hk x
    have ho:=hk.H.Ek hp;exact Am.Dz h1 (mf hp) (Ob.Cw ho i _ (Dy hk.H.ok (ho.ptr x (Qe hx)))) rfl (hk.sc _ (zh hp))
   ·exact hk
def Am.J0 {S:Am}(hk:S.ok){s:BQ}(hs:s.ok)(hr:S.H.roomy s=true):Am.ok { S with H:=S.H.lay s }:=by
 refine Am.MB hk (Hp.Jy hk.H hs hr) (fun x hx=>?_) hk.so ?_ rfl
 ·rcases Qs.1 (show x ∈ S.H.cur++_ from hx) with hx|hx
  ·exact hk.sc x hx
  ·rw[Zb.1 hx];intro h;simp[Ob.new]at h
 ·show S.next+List.length (if s.final then _ else _)<=S.H.Ap+1
  have:=hk.nx;split<;>simp<;>omega
def Am.Fs {S:Am}(hk:S.ok){s:BQ}(hs:s.ok):Am.ok { S with H:=(S.H.AR s).1 }:=by
 unfold Hp.AR;split
 ·rename_i hr;exact Am.J0 hk hs hr
 ·exact hk
section
variable {w w' : Aa} {o o' : Own} {y : Bl} {S : Am} {x : Tx} {i : Nat}
def AN.Gj {l:Bn}{H H':Hp}{vc vo vw vf:Ac}{f:Nat->Nat}(hh:AN w o l H vc vo vw vf f)(h':∃ f',AN w' o l H' vc vo vw vf f')(hw:Wr l.wd w w'):B1 w' o l H'/\Stp (zg l) o o w w':=by
 obtain⟨f',h'⟩:=h';exact⟨⟨vc,vo,vw,vf,f',h'⟩,Stp.Ci hw (by rw[hh.ow];exact⟨rfl,by simp⟩)⟩
def Av.D4 (h:Av w o y S){H':Hp}(hh:B1 w' o y.l H')(hs:Stp (zg y.l) o o w w'):BM y { S with H:=H' } o w w':=⟨o,h.heap hh hs,hs.mono fun _=>SG⟩
def NI (h:Av w o y S)(hk:S.ok)(p j:Nat) :
  Ab ANa 158 #[ptr y.l.h,p,j] w fun e w'=>e=O (Ak #[I Z (S.H.Cs p j).1,I Z ((S.H.Cs p j).2:Nat)])/\Ae w w w':=by
 obtain⟨vc,vo,vw,vf,f,hh⟩:=h.hp;unfold Hp.Cs
 cases hp:lk S.H.cur p with
 | none=>exact Md hh hk.H.ok hp j
 | some ob =>
  simp only
  cases hn:ob.nums[j]? with
  | none=>exact Jr hh hk.H.ok hp j (by have:=aa.1 hn;rw[(hk.H.Ek hp).ln]at this;exact this)
  | some n=>exact L9 hh hk.H.ok hp j n hn
def Kr (h:Av w o y S)(hk:S.ok)(p:Nat) :
  Ab ANa 58 #[ptr y.l.h,p] w fun e w'=>e=O (Ak #[I Z ((S.H.Dg p).1:Nat),I Z ((S.H.Dg p).2:Nat)])/\Ae w w w':=by
 obtain⟨vc,vo,vw,vf,f,hh⟩:=h.hp;unfold Hp.Dg
 cases hp:lk S.H.cur p with
 | none=>exact WO hh hk.H.ok hp
 | some ob=>exact Wb hh hk.H.ok hp
def Uf (h:Av w o y S)(hk:S.ok)(p:Nat) :
  Ab ANa 196 #[ptr y.l.h,p] w fun e w'=>∃ er:Int,e=O (Ak #[.int .u64 (S.H.sec p:Nat),er])/\Ae w w w':=by
 obtain⟨vc,vo,vw,vf,f,hh⟩:=h.hp;unfold Hp.sec
 cases hp:lk S.H.cur p with
 | none=>exact (qlw hh hk.H.ok hp).mono fun _ _⟨a,b⟩=>⟨70,a,b⟩
 | some ob=>exact (qmz hh hk.H.ok hp).mono fun _ _⟨a,b⟩=>⟨0,a,b⟩
def RO (h:Av w o y S)(hk:S.ok)(p:Nat) :
  Ab ANa 46 #[ptr y.l.h,p] w fun e w'=>e=O (.bool (lk S.H.cur p).isSome)/\Ae w w w':=by
 obtain⟨vc,vo,vw,vf,f,hh⟩:=h.hp;exact Su hh hk.H.ok p p rfl
def XV (h:Av w o y S)(hk:S.ok)(p j:Nat)(n:Int)(hn:-9223372036854775808<=n/\n<=9223372036854775807) :
  Ab ANa 160 #[ptr y.l.h,p,j,n] w fun e w'=>e=O (I Z ((S.H.BB p j n).2:Nat))/\BM y { S with H:=(S.H.BB p j n).1 } o w w':=by
 obtain⟨vc,vo,vw,vf,f,hh⟩:=h.hp;unfold Hp.BB
 cases hp:lk S.H.cur p with
 | none=>exact (qln hh hk.H.ok hp j n).mono fun _ _⟨a,b⟩=>⟨a,h.EJ b⟩
 | some ob =>
  simp only;by_cases hj:ob.AL.d<=j
  ·rw[if_pos hj]
   exact (qkw hh hk.H.ok hp j n hj).mono fun _ _⟨a,b⟩=>⟨a,h.EJ b⟩
  ·rw[if_neg hj]
   refine (qmt hh hk.H.ok hp j n (by omega) hn).mono ?_
   rintro e w'⟨rfl,_,h',hw⟩;obtain⟨a1,a2⟩:=hh.Gj h' hw;exact⟨rfl,h.D4 a1 a2⟩
def gz (h:Av w o y S)(hk:S.ok)(p:Nat)(b:Bool) :
  Ab ANa 164 #[ptr y.l.h,p,b] w fun e w'=>e=O (I Z ((S.H.AX p b).2:Nat))/\BM y { S with H:=(S.H.AX p b).1 } o w w':=by
 obtain⟨vc,vo,vw,vf,f,hh⟩:=h.hp;unfold Hp.AX
 cases hp:lk S.H.cur p with
 | none=>exact (qh4 hh hk.H.ok hp b).mono fun _ _⟨a,b⟩=>⟨a,h.EJ b⟩
 | some ob =>
  refine (qhi hh hk.H.ok hp b).mono ?_;rintro e w'⟨rfl,_,h',hw⟩;obtain⟨a1,a2⟩:=hh.Gj h' hw;exact⟨rfl,h.D4 a1 a2⟩
def VY (h:Av w o y S)(hk:S.ok)(p v:Nat)(hv:v<=2199023255552) :
  Ab ANa 200 #[ptr y.l.h,p,.int .u64 v] w fun e w'=>e=O (I Z ((S.H.AM p v).2:Nat))/\BM y { S with H:=(S.H.AM p v).1 } o w w':=by
 obtain⟨vc,vo,vw,vf,f,hh⟩:=h.hp;unfold Hp.AM
 cases hp:lk S.H.cur p with
 | none=>exact (tu hh hk.H.ok hp v).mono fun _ _⟨a,b⟩=>⟨a,h.EJ b⟩
 | some ob =>
  refine (tn hh hk.H.ok hp v hv).mono ?_;rintro e w'⟨rfl,_,h',hw⟩;obtain⟨a1,a2⟩:=hh.Gj h' hw;exact⟨rfl,h.D4 a1 a2⟩
def MR (h:Av w o y S)(hk:S.ok)(s:BQ)(hs:s.ok) :
  Ab ANa 201 #[ptr y.l.h,ka s] w fun e w'=>e=O (Ak #[I Z ((S.H.AR s).2.1:Nat),I Z ((S.H.AR s).2.2:Nat)])/\BM y { S with H:=(S.H.AR s).1 } o w w':=by
 obtain⟨vc,vo,vw,vf,f,hh⟩:=h.hp;refine (qov hh hk.H s hs).mono ?_
 rintro e w' ⟨rfl,bQ,vo',eY,dY,f',o',hh',hs⟩
 exact⟨rfl,o',h.heap ⟨_,_,_,_,_,hh'⟩ hs,hs.mono fun _=>SG⟩
def T8 (h:Av w o y S)(hk:S.ok)(hi:i<S.Au.length) :
  Ab ANa 133 #[ptr y.sb,i] w fun e w'=>e=O (ptr (y.xb i))/\w=w':=by
 obtain⟨g,cap,e,hc,hcap⟩:=h.Ep i hi;obtain⟨vq,vl,vm,hb,_⟩:=h.A3;unfold qm at hb;rw[e]at hb;have c:=hb.cell;have hI:(i:Int)<(S.Au.length:Int):=by omega
 have h8:=hk.t8;clear h hk;go_in;go_wp2_with fail;go_ret;exact⟨rfl,rfl⟩
def Fh.cell {id xb lb:Nat}(h:Fh w o id i xb lb x):∃ vt,∀ j,w.cell? ⟨xb,j,none⟩=(#[i,.bool x.live,x.start,x.seen,ptr lb,vt]:Array Ac)[j]?:=by
 obtain⟨vt,hb,_⟩:=h.A3;exact⟨vt,hb.cell⟩
def ye (h:Av w o y S)(hk:S.ok)(hx:S.Au[i]?=some x) :
  Ab ANa 135 #[ptr y.sb,i] w fun e w'=>e=O (if x.live then ptr (y.xb i) else Ah none)/\w=w':=by
 have HT:=Qa (T8 h hk (Qc.1 hx).1);obtain⟨vt,c⟩:=(h.Au i x hx).cell;clear h hk hx
 cases hl:x.live
 all_goals
  rw[hl]at c;go_in;go_wp2_with fail;refine HT.o.mono ?_;rintro e w1⟨rfl,rfl⟩;go_wp2_with fail;go_ret;exact⟨rfl,rfl⟩
def Mn (h:Av w o y S)(hk:S.ok)(hx:S.Au[i]?=some x) :
  Ab ANa 82 #[ptr y.sb,i] w fun e w'=>e=O (Ak #[I Z (if x.live then (x.start:Int) else 0),.bool x.live])/\w=w':=by
 have HT:=Qa (ye h hk hx);obtain⟨vt,c⟩:=(h.Au i x hx).cell;clear h hk hx
 cases hl:x.live
 all_goals
  rw[hl]at c HT;try simp only[if_true,if_false,Aj]at HT ⊢
  go_in;go_wp2_with fail;refine HT.o.mono ?_;rintro e w1⟨rfl,rfl⟩;go_wp2_with fail;go_ret2;exact⟨rfl,rfl⟩
def PE (h:Av w o y S) :
  Ab ANa 32 #[ptr y.sb] w fun e w'=>e=O (I Z S.now)/\w=w':=by
 have HC:=Qa (U1 h.ck);obtain⟨vq,vl,vm,hb,_⟩:=h.A3;unfold qm at hb;have c:=hb.cell;clear h;go_in;go_wp2_with fail;refine HC.o.mono ?_
 rintro e w1⟨rfl,rfl⟩
 go_wp2_with fail;go_ret;exact⟨rfl,rfl⟩
def KH (h:Av w o y S)(hk:S.ok) :
  Ab ANa 31 #[ptr y.sb] w fun e w'=>e=O (I Z (S.H.left:Nat))/\Ae w w w':=by
 obtain⟨vc,vo,vw,vf,f,hh⟩:=h.hp;have HC:=Qa (Sq hh hk.H.ok);obtain⟨vq,vl,vm,hb,_⟩:=h.A3;unfold qm at hb;have c:=hb.cell;generalize ((S.H.left:Nat):Int)=r at *;clear h hk hh;go_in;go_wp2_with fail;refine HC.o.mono ?_
 rintro e w1⟨rfl,hb1⟩
 go_wp2_with fail;go_ret;exact⟨rfl,hb1⟩
def Wh (h:Av w o y S)(hk:S.ok)(p:Nat) :
  Ab ANa 66 #[ptr y.sb,p] w fun e w'=>e=O (Ak #[I Z ((S.H.Dg p).1:Nat),I Z ((S.H.Dg p).2:Nat)])/\Ae w w w':=by
 have HC:=Qa (Kr h hk p);obtain⟨vq,vl,vm,hb,_⟩:=h.A3;unfold qm at hb;have c:=hb.cell;generalize (((S.H.Dg p).1:Nat):Int)=r at *;generalize (((S.H.Dg p).2:Nat):Int)=q at *;clear h hk;go_in;go_wp2_with fail;refine HC.o.mono ?_
 rintro e w1⟨rfl,hb1⟩
 go_wp2_with fail;go_ret2;exact⟨rfl,hb1⟩
def TN (v:Nat)(hv:v<=2199023255552)(hs:yr v)(w:Aa):Ab ANa 197 #[.int .u64 v] w fun e w' =>
  e=O (Ak #[I Z (if v%2=1 then ((v/2:Nat):Int) else 0),I Z (if v%2=1 then 0 else ((v/2:Nat):Int)),.bool (decide (v%2=1))])/\w=w':=by
 by_cases h:v%2=1
 ·have h8:=hs h
  have e1:(v:Int)=2*((v/2:Nat):Int)+1:=by omega
  rw[e1,if_pos h,if_pos h,decide_eq_true h];exact qlt _ ⟨by omega,by omega⟩ w
 ·have e1:(v:Int)=2*((v/2:Nat):Int):=by omega
  rw[e1,if_neg h,if_neg h,decide_eq_false h];exact qna _ ⟨by omega,by omega⟩ w
def UH (h:Av w o y S)(hk:S.ok)(hx:S.Au[i]?=some x)(p:Nat) :
  Ab ANa 141 #[ptr y.sb,ptr (y.xb i),p] w fun e w'=>e=O (.bool (we i x.start (S.H.sec p)))/\Ae w w w':=by
 have HC:=Qa (Uf h hk p);obtain⟨hs,hv⟩:=hk.sec p;have HO:=Qa (fun w=>TN (S.H.sec p) hv hs w)
 obtain⟨vq,vl,vm,hb,_⟩:=h.A3;unfold qm at hb;have c:=hb.cell;obtain⟨vt,jx,_⟩:=(h.Au i x hx).A3;unfold zj at jx;unfold we;generalize S.H.sec p=v at *;clear h hk hx hs hv;by_cases hv:v%2=1
 ·rw[if_pos hv]
  rw[if_pos hv,if_pos hv,decide_eq_true hv]at HO;have hd:decide (v/2≠i)=decide ((((v/2:Nat):Int))≠(i:Int)):=by
   rw[ai];simp only[decide_eq_true_eq];omega
  rw[hd];generalize ((v/2:Nat):Int)=q at *;clear hv hd;go_in;go_wp2_with fail;refine HC.o.mono ?_;rintro e w1⟨er,rfl,hb1⟩;have cx:=(jx.below hb1 jx.lt).cell;go_wp2_with fail;refine (HO.o _).mono ?_;rintro e w2⟨rfl,rfl⟩;go_wp2_with fail;go_ret;exact⟨by simp[bne,BEq.beq],hb1⟩
 ·rw[if_neg hv]
  rw[if_neg hv,if_neg hv,decide_eq_false hv]at HO;have hd:decide (x.start<v/2)=decide ((x.start:Int)<(((v/2:Nat):Int))):=by
   rw[ai];simp only[decide_eq_true_eq];omega
  rw[hd];generalize ((v/2:Nat):Int)=q at *;clear hv hd;go_in;go_wp2_with fail;refine HC.o.mono ?_;rintro e w1⟨er,rfl,hb1⟩;have cx:=(jx.below hb1 jx.lt).cell;go_wp2_with fail;refine (HO.o _).mono ?_;rintro e w2⟨rfl,rfl⟩;go_wp2_with fail;go_ret;exact⟨rfl,hb1⟩
def J9 (h:Av w o y S)(hk:S.ok)(hx:S.Au[i]?=some x)(p:Nat) :
  Ab ANa 203 #[ptr y.sb,ptr (y.xb i),p] w fun e w'=>e=O (Ak #[])/\BM y { S with H:=(S.H.AM p (2*i+1)).1 } o w w':=by
 have h8:=hk.t8;have hi:=(Qc.1 hx).1;have HC:=VY h hk p (2*i+1) (by omega)
 have HO:=Qa (fun w=>Uj i ⟨by omega,by omega⟩ w)
 have ei:((2*i+1:Nat):Int)=2*(i:Int)+1:=by omega
 rw[ei]at HC;generalize (S.H.AM p (2*i+1))=r at *;replace HC:=Qa HC;generalize 2*(i:Int)+1=q at HC HO;obtain⟨vq,vl,vm,hb,_⟩:=h.A3;unfold qm at hb;have c:=hb.cell;obtain⟨vt,cx⟩:=(h.Au i x hx).cell;clear h hk hx hi h8 ei;go_in;go_wp2_with fail;refine (HO.o _).mono ?_
 rintro e w1 ⟨rfl,rfl⟩
 go_wp2_with fail;refine HC.o.mono ?_
 rintro e w2 ⟨rfl,hl⟩
 go_wp2_with fail;go_end0;exact⟨rfl,hl⟩
def qmy (h:Av w o y S)(hk:S.ok)(p v:Nat)(hv:v<=1099511627776) :
  Ab ANa 143 #[ptr y.sb,p,v] w fun e w'=>e=O (Ak #[])/\BM y { S with H:=(S.H.AM p (2*v)).1 } o w w':=by
 have HC:=VY h hk p (2*v) (by omega)
 have HO:=Qa (fun w=>Sx v ⟨by omega,by omega⟩ w)
 have ei:((2*v:Nat):Int)=2*(v:Int):=by omega
 rw[ei]at HC;generalize (S.H.AM p (2*v))=r at *;replace HC:=Qa HC;generalize 2*(v:Int)=q at HC HO;obtain⟨vq,vl,vm,hb,_⟩:=h.A3;unfold qm at hb;have c:=hb.cell;clear h hk hv ei;go_in;go_wp2_with fail;refine (HO.o _).mono ?_
 rintro e w1 ⟨rfl,rfl⟩
 go_wp2_with fail;refine HC.o.mono ?_
 rintro e w2 ⟨rfl,hl⟩
 go_wp2_with fail;go_end0;exact⟨rfl,hl⟩
def Tx.ended (x:Tx):Tx:={ x with live:=false,log:={ x.log with reads:=[],keeps:=[],holds:=[],Az:=[] },A0:=[] }
def RH (h:Av w o y S)(hx:S.Au[i]?=some x) :
  Ab ANa 139 #[ptr y.sb,ptr (y.xb i)] w fun e w'=>e=O (Ak #[])/\BM y (S.tx i x.ended) o w w':=by
 have ht:=h.Au i x hx;obtain⟨vr,vk,vh,vu,hl⟩:=ht.log;have HR:=Qa (qq2 hl);have HI:=Qa h;obtain⟨vt,jx,hrow⟩:=ht.A3;have qY:=Qa hrow;unfold zj at jx;have c:=jx.cell;have ob:=ht.ob;clear h hl ht hx hrow;go_in;go_wp2_with fail;refine HR.o.mono ?_
 rintro e w1 ⟨rfl,hl1,hs1⟩
 have j1:=jx.Ar hs1 (by rw[ob];simp)
 clear c jx;have c:=j1.cell;have z:=j1.free;have s:=j1.lt;go_wp2_with fail;go_end0;have hs2:Stp (ux y i) o o w1 ((w1.setCell ⟨y.xb i,5,none⟩ (Ai none 0 0)).setCell ⟨y.xb i,1,none⟩ (.bool false)):=
  ((Stp.refl _ o w1).setCell (by show ux y i (o (y.xb i));rw[ob];exact⟨rfl,by simp,by simp⟩) _).setCell (by show ux y i (o (y.xb i));rw[ob];exact⟨rfl,by simp,by simp⟩) _
 have hs3:Stp (fun t=>t=(y.l.id,16+8*i)) o o w1 ((w1.setCell ⟨y.xb i,5,none⟩ (Ai none 0 0)).setCell ⟨y.xb i,1,none⟩ (.bool false)):=
  ((Stp.refl _ o w1).setCell (by show o (y.xb i)=_;exact ob) _).setCell (by show o (y.xb i)=_;exact ob) _
 have hs:Stp (ux y i) o o w _:=(hs1.mono (by rintro _ rfl;exact⟨rfl,by simp,by simp⟩)).trans hs2
 exact⟨rfl,o,HI.o.tx ⟨⟨_,(j1.set 5 _).set 1 _,Row.nil _ _ _ _ _⟩,⟨_,_,_,_,hl1.Ar hs3 fun j hj=>by simp;omega⟩,ob⟩ hs,hs.mono fun _=>Sz⟩
end
def gm {w:Aa}{B:Nat}{cs:Array Ac}{t:TypeId}(h:An w B cs t):∀ j u,cs.toList[j]?=some u->w.cell? ((⟨B,0,none⟩:Addr).add j)=some u:=fun j u hu=>by
 have hadd:(⟨B,0,none⟩:Addr).add j=⟨B,j,none⟩:=by unfold Addr.add;split<;>simp_all
 rw[hadd,h.cell];simpa using hu
def Yo {n b:Nat}(h:n<=4096)(hb:b<=64):n+1<=maxLen/\(n+1)*b<=140737488355328:=by
 constructor
 ·simp only[maxLen];omega
 ·have:(n+1)*b<=4097*64:=Nat.mul_le_mul (by omega) hb
  omega
abbrev Vl (u:Un):Ac:=Al #[nv u.kind,nv u.pos,nv u.i,u.old]
section
variable {w : Aa} {o : Own} {id k b : Nat} {L : Lg} {vr vk vh vu : Ac}
def qfx (h:BV w o id k b L vr vk vh vu)(u:Un)(hm:L.mu<=L.Az.length) :
  Ab ANa 163 #[Ah (some ⟨b,0,none⟩),Vl u] w fun e w'=>e=O (.bool false)/\Ae w w w':=by
 have j:=h.A3;have c:=h.A3.cell;have s:=h.A3.lt;obtain⟨pa,cp,rfl⟩:=h.ru.A6;have nY:(L.mu:Int)<=(L.Az.length:Int):=by omega
 clear h;go_in;go_upto_region 1 with fail;go_quiet (fail);go_wp2_with fail;go_ret;exact⟨rfl,zo (qc (qd w) _) _⟩
def qfn (h:BV w o id k b L vr vk vh vu) (hk:L.ok) (u:Un) (hm:L.Az.length<L.mu) :
  Ab ANa 163 #[Ah (some ⟨b,0,none⟩),Vl u] w fun e w'=>e=O (.bool true) /\
   ∃ vu' o',BV w' o' id k b { L with Az:=L.Az++[u] } vr vk vh vu'/\Stp (fun t=>t=(id,k)\/t=(id,k+4)) o o' w w':=by
 have HI:=Qa h;have j:=h.A3;have c:=h.A3.cell;have s:=h.A3.lt;obtain⟨pa,cp,rfl⟩:=h.ru.A6;have nY:(L.Az.length:Int)<(L.mu:Int):=by omega
 have hw:=Qa (Yo (n:=L.Az.length) (b:=32) (by have:=hk.u;have:=hk.mu;omega) (by omega))
 obtain⟨iU,hi,hsI,cK,bZ⟩:=W8;have hu64:=underlying151;clear h hk hm;go_in;go_upto_region 1 with fail;go_quiet (fail);go_upto_region 3 with fail;obtain⟨W,hW⟩:=Ja0 ((w.alloc (ANb #[nv u.kind,nv u.pos,nv u.i,u.old] 198)).drewN nq);rw[<-hW];have hbW:Ae w w W:=by rw[hW];exact zo (qc (qd w) _) _
 have jB:An W w #[nv u.kind,nv u.pos,nv u.i,u.old] 198:=by rw[hW];exact (An.new w _ _).drewN _
 have jL:=j.below hbW j.lt;clear hW c s;have cL:=jL.cell;have sL:=jL.lt;have cB:=jB.cell;have sB:=jB.lt;have rn:=(HI.o.ru.below hbW).below (qc (qf (qd W)) (ANb #[nv u.kind,nv u.pos,nv u.i,u.old] 198));have jn:=An.new W.drew #[nv u.kind,nv u.pos,nv u.i,u.old] 198;have hone:=Wa [u];have hkeep:=fun (w1:Aa) (o1:Own) (hst:Stp (fun t=>t=(id,k+4)) o o1 (W.drew.alloc (ANb #[nv u.kind,nv u.pos,nv u.i,u.old] 198)) w1)=>(An.alloc (qj jL) (ANb #[nv u.kind,nv u.pos,nv u.i,u.old] 198)).Ar hst (by rw[HI.o.ob];simp)
 have hfin:=Qa (fun (w1:Aa) (o1:Own) (pa':Option Addr) (cp':Nat) (hown:Row w1 o1 (id,k+4) 198 4 (.slice pa' (L.Az.length+1) cp') (L.Az.length+1) (qz L.Az++[nv u.kind,nv u.pos,nv u.i,I Z u.old])) (hst:Stp (fun t=>t=(id,k+4)) o o1 (W.drew.alloc (ANb #[nv u.kind,nv u.pos,nv u.i,u.old] 198)) w1) =>
  show ∃ vu' o',BV (w1.setCell ⟨b,5,none⟩ (.slice pa' (L.Az.length+1) cp')) o' id k b { L with Az:=L.Az++[u] } vr vk vh vu'/\Stp (fun t=>t=(id,k)\/t=(id,k+4)) o o' w (w1.setCell ⟨b,5,none⟩ (.slice pa' (L.Az.length+1) cp')) from by
   have h:=HI.o;have hlt:b<(W.drew.alloc (ANb #[nv u.kind,nv u.pos,nv u.i,u.old] 198)).1.size:=(An.alloc (qj jL) _).lt;have ho1:o1 b=(id,k):=by rw[hst.tags b hlt];exact h.ob
   have k1:Stp (fun t=>t=(id,k)) o1 o1 w1 (w1.setCell ⟨b,5,none⟩ (.slice pa' (L.Az.length+1) cp')):=(Stp.refl _ o1 w1).setCell (by simpa using ho1) _
   have S:Stp (fun t=>t=(id,k)\/t=(id,k+4)) o o1 w (w1.setCell ⟨b,5,none⟩ (.slice pa' (L.Az.length+1) cp')):=
    (Stp.of_below (hbW.trans ((qc (qf (qd W)) _).mono hbW.size))).trans ((hst.mono fun _ e=>Or.inr e).trans (k1.mono fun _ e=>Or.inl e))
   refine⟨_,o1,⟨(hkeep _ _ hst).set 5 _,h.rr.Ar S (by simp),h.rk.Ar S (by simp),h.rh.Ar S (by simp),?_,ho1⟩,S⟩
   have hr:=hown.Ar k1 (by simp)
   show Row _ o1 (id,k+4) 198 4 _ (L.Az++[u]).length (qz (L.Az++[u]));rw[qkx];simpa using hr)
 go_region_law ((refine zt _ (by rfl) _ _ _ (by rfl) 198 iU _ 4 32 hu64 hi bZ hsI cK (by rfl) (by decide) o (id,k+4) _ _ _ (by rfl) rn ⟨W,0,none⟩ 1 1 [nv u.kind,nv u.pos,nv u.i,I Z u.old] (by rfl) (by rfl) (gm jn) hone hw.o.1 hw.o.2 ?_;intro v' w1 hown hst;obtain⟨pa',cp',rfl⟩:=hown.A6;have jX:=hkeep _ _ hst;have cX:=jX.cell;have zX:=jX.free;have sX:=jX.lt))
 all_goals
  go_wp2_with fail;go_ret;exact⟨rfl,hfin.o _ _ _ _ hown hst⟩
end
section
variable {w : Aa} {o : Own} {id k b : Nat} {L : Lg} {vr vk vh vu : Ac}
def Row.Fi {w:Aa}{o:Own}{t:Tag}{l:List (Nat×Nat)}{g n cap:Nat}(h:Row w o t 195 2 (Ai (some ⟨g,0,none⟩) n cap) n (qh l))(i:Nat)(x:Nat×Nat)(hx:l[i]?=some x) :
  w.cell? ⟨g,i*2,none⟩=some (nv x.1)/\w.cell? ⟨g,i*2+1,none⟩=some (nv x.2):=by
 have h2:=y7 l i x hx;have f:=fun j u hu=>h.own.cells (g:=g) rfl j u hu
 have e:∀ j,(⟨g,0,none⟩:Addr).add j=⟨g,j,none⟩:=fun j=>by unfold Addr.add;split<;>simp_all
 have a1:=f _ _ h2.1;have a2:=f _ _ h2.2;rw[e]at a1 a2;rw[Nat.mul_comm i 2];exact⟨a1,a2⟩
def qfm (h:BV w o id k b L vr vk vh vu) (hk:L.ok) (p v:Nat) (hp:∀ x ∈ L.holds,x.1≠p) (hm:L.holds.length<L.mu) :
  Ab ANa 202 #[Ah (some ⟨b,0,none⟩),Al #[p,v]] w fun e w'=>e=O (.bool true) /\
   ∃ vh' o',BV w' o' id k b { L with holds:=L.holds++[(p,v)] } vr vk vh' vu/\Stp (fun t=>t=(id,k)\/t=(id,k+3)) o o' w w':=by
 have HI:=Qa h;have HP:=Qa hp;have j:=h.A3;have c:=h.A3.cell;have s:=h.A3.lt;obtain⟨pa,cp,rfl⟩:=h.rh.A6;have nY:(L.holds.length:Int)<(L.mu:Int):=by omega
 have hlen:=Qa (show L.holds.length<=200 by have:=hk.h;have:=hk.mu;omega)
 have hw:=Qa (Yo (n:=L.holds.length) (b:=16) (by have:=hk.h;have:=hk.mu;omega) (by omega))
 obtain⟨iU,hi,hsI,cK,bZ⟩:=Xa;have hu64:=underlying150;clear h hk hm hp;go_in;go_wp2_with fail;go_loopw [14] (fun ix wr=>∃ i:Nat,ix=I Z i/\i<=L.holds.length/\Ae w w wr/\An wr w #[p,v] 195) (fun ix _=>L.holds.length-(intOf ix).toNat)
 case atStart=>exact⟨0,rfl,by omega,qc (qd w) _,An.new w _ _⟩
 case round =>
  obtain⟨i,rfl,hil,hbr,jB⟩:=hrel;clear c s;have jL:=j.below hbr j.lt;have cL:=jL.cell;have sL:=jL.lt;have cB:=jB.cell;have sB:=jB.lt;have hR:=HI.o.rh.below hbr;by_cases hlt:i<L.holds.length
  ·obtain⟨x,hx⟩:∃ x,L.holds[i]?=some x:=⟨_,Qb hlt⟩
   have hne:(x.1:Int)≠(p:Int):=by have:=HP.o x (Qe hx);omega
   rcases hR.own.2 with ⟨e1,e2⟩|⟨g,cap,cur,e1,_,hg,hn,hc,_⟩
   ·omega
   ·injection e1 with e1 _ e2
    subst e1 e2;obtain⟨c0,c1⟩:=hR.Fi i x hx;have sg:g<wr.1.size:=(Qf.1 hg).1;have hI:(i:Int)<(L.holds.length:Int):=by omega
    have hI2:(i:Int)<200:=by have:=hlen.o;omega
    unfold nv at c0 c1;clear hg hR hx hc;go_wp2_with fail;go_roundw
    case rel=>exact⟨i+1,by simp,by omega,qc hbr _,jB.alloc _⟩
    case measure=>simp[intOf];omega
  ·obtain rfl:i=L.holds.length:=by omega
   go_upto_region 9 with fail;go_quiet (fail);go_upto_region 11 with fail;obtain⟨W,hW⟩:=Ja0 (wr.drewN nq);rw[<-hW];have hbW:Ae w w W:=by rw[hW];exact zo hbr _
   have jB:An W w #[p,v] 195:=by rw[hW];exact jB.drewN _
   have jL:=j.below hbW j.lt;clear hW hR cL sL cB sB;have cL:=jL.cell;have sL:=jL.lt;have cB:=jB.cell;have sB:=jB.lt;have rn:=(HI.o.rh.below hbW).below (qc (qf (qd W)) (ANb #[p,v] 195));have jn:=An.new W.drew #[p,v] 195;have hone:=uo [(p,v)];have hkeep:=fun (w1:Aa) (o1:Own) (hst:Stp (fun t=>t=(id,k+3)) o o1 (W.drew.alloc (ANb #[p,v] 195)) w1)=>(An.alloc (qj jL) (ANb #[p,v] 195)).Ar hst (by rw[HI.o.ob];simp)
   have hfin:=Qa (fun (w1:Aa) (o1:Own) (pa':Option Addr) (cp':Nat) (hown:Row w1 o1 (id,k+3) 195 2 (.slice pa' (L.holds.length+1) cp') (L.holds.length+1) (qh L.holds++[I Z p,I Z v])) (hst:Stp (fun t=>t=(id,k+3)) o o1 (W.drew.alloc (ANb #[p,v] 195)) w1) =>
    show ∃ vh' o',BV (w1.setCell ⟨b,4,none⟩ (.slice pa' (L.holds.length+1) cp')) o' id k b { L with holds:=L.holds++[(p,v)] } vr vk vh' vu/\Stp (fun t=>t=(id,k)\/t=(id,k+3)) o o' w (w1.setCell ⟨b,4,none⟩ (.slice pa' (L.holds.length+1) cp')) from by
     have h:=HI.o;have hlt:b<(W.drew.alloc (ANb #[p,v] 195)).1.size:=(An.alloc (qj jL) _).lt;have ho1:o1 b=(id,k):=by rw[hst.tags b hlt];exact h.ob
     have k1:Stp (fun t=>t=(id,k)) o1 o1 w1 (w1.setCell ⟨b,4,none⟩ (.slice pa' (L.holds.length+1) cp')):=(Stp.refl _ o1 w1).setCell (by simpa using ho1) _
     have S:Stp (fun t=>t=(id,k)\/t=(id,k+3)) o o1 w (w1.setCell ⟨b,4,none⟩ (.slice pa' (L.holds.length+1) cp')):=
      (Stp.of_below (hbW.trans ((qc (qf (qd W)) _).mono hbW.size))).trans ((hst.mono fun _ e=>Or.inr e).trans (k1.mono fun _ e=>Or.inl e))
     refine⟨_,o1,⟨(hkeep _ _ hst).set 4 _,h.rr.Ar S (by simp),h.rk.Ar S (by simp),?_,h.ru.Ar S (by simp),ho1⟩,S⟩
     have hr:=hown.Ar k1 (by simp)
     show Row _ o1 (id,k+3) 195 2 _ (L.holds++[(p,v)]).length (qh (L.holds++[(p,v)]));rw[bf];simpa [nv] using hr)
   go_region_law ((refine zt _ (by rfl) _ _ _ (by rfl) 195 iU _ 2 16 hu64 hi bZ hsI cK (by rfl) (by decide) o (id,k+3) _ _ _ (by rfl) rn ⟨W,0,none⟩ 1 1 [I Z p,I Z v] (by rfl) (by rfl) (gm jn) hone hw.o.1 hw.o.2 ?_;intro v' w1 hown hst;obtain⟨pa',cp',rfl⟩:=hown.A6;have jX:=hkeep _ _ hst;have cX:=jX.cell;have zX:=jX.free;have sX:=jX.lt))
   all_goals
    go_wp2_with fail;go_ret;exact⟨rfl,hfin.o _ _ _ _ hown hst⟩
def tt (h:BV w o id k b L vr vk vh vu)(hk:L.ok)(p v:Nat)(hp:∀ x ∈ L.holds,x.1≠p)(hm:L.mu<=L.holds.length) :
  Ab ANa 202 #[Ah (some ⟨b,0,none⟩),Al #[p,v]] w fun e w'=>e=O (.bool false)/\Ae w w w':=by
 have HI:=Qa h;have HP:=Qa hp;have j:=h.A3;have c:=h.A3.cell;have s:=h.A3.lt;obtain⟨pa,cp,rfl⟩:=h.rh.A6;have nY:(L.mu:Int)<=(L.holds.length:Int):=by omega
 have hlen:=Qa (show L.holds.length<=200 by have:=hk.h;have:=hk.mu;omega)
 clear h hk hm hp;go_in;go_wp2_with fail;go_loopw [14](fun ix wr=>∃ i:Nat,ix=I Z i/\i<=L.holds.length/\Ae w w wr/\An wr w #[p,v] 195)(fun ix _=>L.holds.length-(intOf ix).toNat)
 case atStart=>exact⟨0,rfl,by omega,qc (qd w) _,An.new w _ _⟩
 case round =>
  obtain⟨i,rfl,hil,hbr,jB⟩:=hrel;clear c s;have jL:=j.below hbr j.lt;have cL:=jL.cell;have sL:=jL.lt;have cB:=jB.cell;have sB:=jB.lt;have hR:=HI.o.rh.below hbr;by_cases hlt:i<L.holds.length
  ·obtain⟨x,hx⟩:∃ x,L.holds[i]?=some x:=⟨_,Qb hlt⟩
   have hne:(x.1:Int)≠(p:Int):=by have:=HP.o x (Qe hx);omega
   rcases hR.own.2 with ⟨e1,e2⟩|⟨g,cap,cur,e1,_,hg,hn,hc,_⟩
   ·omega
   ·injection e1 with e1 _ e2
    subst e1 e2;obtain⟨c0,c1⟩:=hR.Fi i x hx;have sg:g<wr.1.size:=(Qf.1 hg).1;have hI:(i:Int)<(L.holds.length:Int):=by omega
    have hI2:(i:Int)<200:=by have:=hlen.o;omega
    unfold nv at c0 c1;clear hg hR hx hc;go_wp2_with fail;go_roundw
    case rel=>exact⟨i+1,by simp,by omega,qc hbr _,jB.alloc _⟩
    case measure=>simp[intOf];omega
  ·obtain rfl:i=L.holds.length:=by omega
   go_upto_region 9 with fail;go_quiet (fail);go_wp2_with fail;go_ret;exact⟨rfl,zo hbr _⟩
def Xv (n:Nat)(h:n<=200)(w:Aa):Ab ANa 70 #[n] w fun e w'=>e=O n/\w=w':=by
 have e1:max (n:Int) 0=n:=by omega
 have e2:min (n:Int) 200=n:=by omega
 go_in;go_wp2_with fail;go_ret;exact⟨rfl,rfl⟩
def Lg.fresh (mr mu:Nat):Lg:=⟨mr,mu,[],[],[],[]⟩
def Mo (mr mu:Nat)(h1:mr<=200)(h2:mu<=200)(w:Aa) :
  Ab ANa 42 #[mr,mu] w fun e w'=>e=O (Ah (some ⟨w,0,none⟩)) /\
   An w' w #[mr,mu,Ai none 0 0,Ai none 0 0,Ai none 0 0,Ai none 0 0] 153/\Ae w w w'/\w'.1.size=w.1.size+1:=by
 have H1:=Qa (fun w=>Xv mr h1 w)
 have H2:=Qa (fun w=>Xv mu h2 w)
 go_in;go_wp2_with fail;refine (H1.o _).mono ?_
 rintro e w1 ⟨rfl,rfl⟩
 go_wp2_with fail;refine (H2.o _).mono ?_
 rintro e w1 ⟨rfl,rfl⟩
 go_wp2_with fail;go_ret;exact⟨rfl,An.Ax _ _ _ _ _ rfl (by simp),qc (qd w) _,by simp⟩
end
section
variable {w : Aa} {o : Own} {l : Bn} {H : Hp} {vc vo vw vf : Ac} {f : Nat -> Nat}
def Gl.after {w' w'':Aa}{o':Own}{H':Hp}(h1:Stp (zg l) o o' w w')(h2:Gl w' o' l H' vo vw vf w''):Gl w o l H' vo vw vf w'':=by
 obtain⟨bQ,f',o2,h3,h4⟩:=h2;exact⟨bQ,f',o2,h3,h1.trans h4⟩
def AN.EF {w':Aa}(h:AN w o l H vc vo vw vf f)(hk:H.ok){p:Nat}{ob dH:Ob}(hp:lk H.cur p=some ob){k v:Nat}(hkk:k<ob.size)
  (hT:Turned w w' l.a l.wd (2*H.size+1) (upd f (p+k) v))(ho:BE (upd f (p+k) v) p dH):Gl w o l { H with cur:=up H.cur p dH } vo vw vf w':=
 ⟨vc,_,o,h.turn hk hp hkk hT ho,Stp.Ci hT.2 (by rw[h.ow];exact⟨rfl,by simp⟩)⟩
def Js (h:AN w o l H vc vo vw vf f)(hw:H.wf)(p i:Nat) :
  Ab ANa 150 #[Ah (some ⟨l.h,0,none⟩),p,i] w fun e w'=>e=O (Ak #[I Z ((H.AY p i).2.1:Nat),I Z ((H.AY p i).2.2:Nat)])/\Gl w o l (H.AY p i).1 vo vw vf w':=by
 have hk:=hw.ok;unfold Hp.AY
 cases hp:lk H.cur p with
 | none=>exact (Me h hk hp i).mono fun _ _ ⟨a,b⟩=>⟨a,h.B7 b⟩
 | some ob =>
  simp only;have ho:=hw.Ek hp
  cases hx:ob.AB[i]? with
  | none=>exact (Jt h hk hp i (by have:=aa.1 hx;rw[ho.lp]at this;exact this)).mono fun _ _ ⟨a,b⟩=>⟨a,h.B7 b⟩
  | some x =>
   simp only;obtain⟨ha,_,hl,_⟩:=h.at_ hk hp;have HH:=Qa (kg h hk hp);have HN:=Qa (fun w' (hw:Ae w w w')=>ce (h.Cr.below hw) ha ho hl i x hx p i rfl rfl);have HC:=Qa (fun w' (hw:Ae w w w')=>(h.below hw).Bo);have HT:=(fun w' (hw:Ae w w w')=>rj (h.below hw) hk x)
   cases ht:(Be H.old x).isSome with
   | false =>
    rw[ht]at HT;replace HT:=Qa HT;have HI:=Qa h;clear h hk hw hp ha ho hl hx ht;rw[if_neg (by simp)]
    go_in;go_wp2_with fail;refine HH.o.mono ?_;rintro e w1 ⟨rfl,hb1⟩;have c1:=HC.o _ hb1;go_wp2_with fail;refine (HN.o _ hb1).mono ?_;rintro e w2 ⟨rfl,hb2⟩;go_wp2_with fail;refine (HT.o _ (qe hb1 hb2)).mono ?_;rintro e w3 ⟨rfl,hb3⟩;go_wp2_with fail;go_ret2;exact⟨rfl,HI.o.B7 (qe (qe hb1 hb2) hb3)⟩
   | true =>
    rw[ht]at HT;replace HT:=Qa HT;rw[if_pos rfl];have HM:=(fun w' (hw:Ae w w w')=>nk (h.below hw) hk x);have hmk:=Hp.Ey hk x;have hmb:=Dy hk (ho.ptr x (Qe hx));have hmp:=mf (p:=x) hp;have hsz:=(yh (H:=H) x).1;have hip:i<ob.AL.p:=by have:=(Qc.1 hx).1;rw[ho.lp]at this;exact this
    generalize H.AG x=r at *;obtain⟨H',q⟩:=r;simp only at HM hmk hmb hmp hsz ⊢;have HE:=Qa (fun (w1 w':Aa)(o1:Own) vc1 f1 (h1:AN w1 o1 l H' vc1 vo vw vf f1) hT=>h1.EF (w':=w') hmk hmp (k:=3+i) (by unfold Ob.size;omega) hT (by rw[show p+(3+i)=p+3+i from by omega];exact (h1.at_ hmk hmp).1.Bh ho i q hip))
    rw[show p+(3+i)=p+3+i from by omega]at HE
    have HS:=Qa (fun (w1:Aa)(o1:Own) vc1 f1 (h1:AN w1 o1 l H' vc1 vo vw vf f1)=>xu h1.Cr (h1.at_ hmk hmp).1 ho (h1.at_ hmk hmp).2.2.1 i q hip hmb p i q rfl rfl rfl);replace HM:=Qa HM;clear h hk hw hp ha ho hl hx ht hmk hmb hmp hip hsz;go_in;go_wp2_with fail;refine HH.o.mono ?_;rintro e w1 ⟨rfl,hb1⟩;have c1:=HC.o _ hb1;go_wp2_with fail;refine (HN.o _ hb1).mono ?_;rintro e w2 ⟨rfl,hb2⟩;go_wp2_with fail;refine (HT.o _ (qe hb1 hb2)).mono ?_;rintro e w3 ⟨rfl,hb3⟩;go_wp2_with fail;refine (HM.o _ (qe (qe hb1 hb2) hb3)).mono ?_;rintro e w4 ⟨rfl,vc4,f4,o4,h4,hs4⟩;have c4:=h4.Bo;go_wp2_with fail;refine (HS.o _ _ _ _ h4).mono ?_;rintro e w5 ⟨rfl,hT5⟩;go_wp2_with fail;go_ret2;exact⟨rfl,Gl.after ((Stp.of_below (qe (qe hb1 hb2) hb3)).trans hs4) (HE.o _ _ _ _ _ h4 hT5)⟩
def qi4 (h:AN w o l H vc vo vw vf f)(hw:H.wf)(p i q:Nat) :
  Ab ANa 148 #[Ah (some ⟨l.h,0,none⟩),p,i,q] w fun e w'=>e=O (I Z ((H.Bj p i q).2:Nat))/\Gl w o l (H.Bj p i q).1 vo vw vf w':=by
 have hk:=hw.ok;unfold Hp.Bj
 cases hp:lk H.cur p with
 | none=>exact (qni h hk hp i q).mono fun _ _ ⟨a,b⟩=>⟨a,h.B7 b⟩
 | some ob =>
  simp only;obtain⟨ha,ho,hl,_⟩:=h.at_ hk hp;have HH:=Qa (kg h hk hp);have HC:=Qa (fun w' (hw:Ae w w w')=>(h.below hw).Bo);have HI:=Qa h;by_cases hq:q≠0/\lk H.cur q=none
  ·rw[if_pos hq]
   have HQ:=Qa (fun w' (hw:Ae w w w')=>yl (h.below hw) hk hq.2);have hqi:(q:Int)≠0:=by have:=hq.1;omega
   clear h hk hw hp ha ho hl hq;go_in;go_wp2_with fail;refine HH.o.mono ?_;rintro e w1 ⟨rfl,hb1⟩;go_wp2_with fail;refine (HQ.o _ hb1).mono ?_;rintro e w2 ⟨rfl,hb2⟩;go_wp2_with fail;go_ret;exact⟨rfl,HI.o.B7 (qe hb1 hb2)⟩
  ·rw[if_neg hq]
   by_cases hi:ob.AL.p<=i
   ·rw[if_pos hi]
    have HN:=Qa (fun w' (hw:Ae w w w')=>qmv (h.Cr.below hw) ha ho hl i hi p i q rfl rfl);by_cases h0:q=0
    ·subst h0
     clear h hk hw hp ha ho hl hq hi;go_in;go_wp2_with fail;refine HH.o.mono ?_;rintro e w1 ⟨rfl,hb1⟩;have c1:=HC.o _ hb1;go_wp2_with fail;refine (HN.o _ hb1).mono ?_;rintro e w2 ⟨rfl,hb2⟩;go_wp2_with fail;go_ret;exact⟨rfl,HI.o.B7 (qe hb1 hb2)⟩
    ·obtain⟨oq,hoq⟩:∃ oq,lk H.cur q=some oq:=by
      cases hoq:lk H.cur q with
      | none=>exact absurd ⟨h0,hoq⟩ hq
      | some oq=>exact⟨oq,rfl⟩
     have HQ:=Qa (fun w' (hw:Ae w w w')=>kg (h.below hw) hk hoq);have hqi:(q:Int)≠0:=by omega
     clear h hk hw hp ha ho hl hq hi hoq;go_in;go_wp2_with fail;refine HH.o.mono ?_;rintro e w1 ⟨rfl,hb1⟩;go_wp2_with fail;refine (HQ.o _ hb1).mono ?_;rintro e w2 ⟨rfl,hb2⟩;have c1:=HC.o _ (qe hb1 hb2);go_wp2_with fail;refine (HN.o _ (qe hb1 hb2)).mono ?_;rintro e w3 ⟨rfl,hb3⟩;go_wp2_with fail;go_ret;exact⟨rfl,HI.o.B7 (qe (qe hb1 hb2) hb3)⟩
   ·rw[if_neg hi]
    have hq':q=0\/(lk H.cur q).isSome=true:=by
     by_cases h0:q=0
     ·exact .inl h0
     ·refine .inr ?_
      cases hoq:lk H.cur q with
      | none=>exact absurd ⟨h0,hoq⟩ hq
      | some oq=>rfl
    refine (qli h hk hp i q (by omega) hq').mono ?_
    rintro e w' ⟨rfl,_,⟨f',h'⟩,hw⟩;exact⟨rfl,vc,f',o,h',Stp.Ci hw (by rw[h.ow];exact⟨rfl,by simp⟩)⟩
