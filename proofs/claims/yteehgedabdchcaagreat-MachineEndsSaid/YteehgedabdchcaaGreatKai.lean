import Derived.Test.YteehgedabdchcaaGreatKaf
import Derived.Test.YteehgedabdchcaaGreatKah
import Derived.Test.YteehgedabdchcaaGreatKbh
set_option linter.all false
set_option maxRecDepth 1000000
set_option maxHeartbeats 16000000
open Go renaming World->Aa,Calls->Ab,Value->Ac
open Go.RowKit renaming Below->Ae
open Go.Value renaming int->I,pointer->Ag,slice->Ah,tuple->Aj
open Go.IntKind renaming i64->Z
open Go.Ending renaming returned->O
namespace Go.Proofs.YteehgedabdchcaaGreat
section
open Go.RowKit Hp
section
variable {w : Aa} {o : Own} {l : Ba} {H : Hp} {vc vo vw vf : Ac} {f : Nat -> Nat}
def zd (l:Ba)(t:Tag):Prop:=t.1=l.id/\t.2<=6
theorem KH (l:Ba)(u:Bool):zd l (l.tc u):=by unfold zd Ba.tc;cases u<;>simp
def FI (w:Aa)(o:Own)(l:Ba)(H':Hp)(vo vw vf:Ac)(w':Aa):Prop:=
 ∃ vc' f' o',AE w' o' l H' vc' vo vw vf f'/\Stp (zd l) o o' w w'
theorem AE.BB (h:AE w o l H vc vo vw vf f){w':Aa}(hb:Ae w.heap.size w w'):FI w o l H vo vw vf w':=⟨vc,f,o,h.below hb,Stp.of_below hb⟩
theorem AE.E8 (h:AE w o l H vc vo vw vf f):l.h≠l.wd:=by
 intro e;have h1:=h.oh;rw[e,h.ow]at h1;simp at h1
theorem dr (h:AE w o l H vc vo vw vf f) (hk:H.ok) (p:Nat) :
  Ab Tryz.prog 173 #[Ag (some ⟨l.h,0,none⟩),I Z p] w fun e w'=>e=O (I Z ((H.AA p).2:Nat))/\FI w o l (H.AA p).1 vo vw vf w':=by
 have hth:=di h hk p
 cases hp:Bj H.old p with
 | none =>
  rw[hp]at hth;rw[H.BJ hp];refine (F7 hth).mono ?_
  rintro e w' ⟨rfl,hb⟩
  exact⟨rfl,h.BB hb⟩
 | some z =>
  obtain⟨ob,g⟩:=z;rw[hp]at hth;have hsz:=hk.sz;have hroom:=hk.room;have htop:=vj hk;have hm:=jf hp;obtain⟨ho,b1,b2,b3⟩:=N5 hk hp;have hrd:=zz _ (Ob.AR ho).2;have hob:=Ob.AR ho;have hb0:=H.BQ (!H.use);have hb1:=H.BQ H.use
  cases g with
  | some q =>
   rw[H.BU hp];have hq:=hk.gone _ hm q rfl;have hf:=(h.B8 _ hm).2 q rfl;simp only at hq hf;have hcp:=fun (W:Aa) (hb:Ae w.heap.size w W)=>Y8 (b:=H.base H.use) (s:=H.size) (t:=H.top) (h.B5.below hb) (show p<2*H.size+1 by omega) hq.1 hq.2 hf
   have hbl:=h.hb;rcases (show H.use=false\/H.use=true by cases H.use<;>simp) with hu|hu
   ·have e0:H.base H.use=1:=by rw[hu];rfl
    have e1:∀ (v1:Ac),H.cells l.a v1 vo vw vf=#[Ag (some ⟨l.a,0,none⟩),I Z 1,I Z H.size,I Z H.top,I Z (1+(H.size:Int)),I Z H.size,I Z H.BD,v1,vo,I Z 0,.bool H.AF,I Z H.Bc,I Z H.scan,I Z H.Ax,vw,vf]:=fun v1=>by
     unfold Hp.cells;simp only[hu,Bool.false_eq_true,if_false]
    rw[e0]at hcp;rw[e1]at hbl;refine (XF hbl hth hcp).mono ?_
    rintro e w' ⟨rfl,hb⟩
    exact⟨rfl,h.BB hb⟩
   ·have e0:(H.base H.use:Int)=1+(H.size:Int):=by rw[hu];show (((1+H.size:Nat)):Int)=_;omega
    have e1:∀ (v1:Ac),H.cells l.a v1 vo vw vf=#[Ag (some ⟨l.a,0,none⟩),I Z 1,I Z H.size,I Z H.BD,I Z (1+(H.size:Int)),I Z H.size,I Z H.top,vo,v1,I Z 1,.bool H.AF,I Z H.Bc,I Z H.scan,I Z H.Ax,vw,vf]:=fun v1=>by
     unfold Hp.cells;simp only[hu,if_true]
    unfold Dg at hcp;rw[e0]at hcp;rw[e1]at hbl;refine (Y0 hbl hth hcp).mono ?_
    rintro e w' ⟨rfl,hb⟩
    exact⟨rfl,h.BB hb⟩
  | none =>
   have howe:=hk.FP;have hge:=QU hp;have hof:=(h.B8 _ hm).1 rfl;simp only at hof;have hcp:=fun (W:Aa) (hb:Ae w.heap.size w W)=>JG (b:=H.base H.use) (s:=H.size) (t:=H.top) (h.B5.below hb) hof ho (by omega) ⟨by omega,by omega,by omega,by omega⟩ (by omega) (by omega) (by omega)
   have hbl:=h.hb
   have hQ:∀ W:Aa,BF W l.a l.wd (2*H.size+1) (FE f p H.top ob.size)->Wr l.wd w W ->
     Am (W.setCell ⟨l.h,11,none⟩ (I Z ((H.Bc-Bo ob.size:Nat):Int))) l.h ({ H with Bc:=H.Bc-Bo ob.size }.cells l.a vc vo vw vf) 185 ->
     Ab Tryz.prog 230 #[Ag (some ⟨l.h,0,none⟩),Dg (H.base H.use) H.size (H.top+Bo ob.size),I Z H.top] (W.setCell ⟨l.h,11,none⟩ (I Z ((H.Bc-Bo ob.size:Nat):Int))) fun e w'=>e=O (Aj #[])/\FI w o l (H.AA p).1 vo vw vf w':=by
    intro W hWd hWr hB;have hs0:Stp (zd l) o o w W:=Stp.BR hWr (by rw[h.ow];exact⟨rfl,by simp⟩)
    have hs1:Stp (zd l) o o w (W.setCell ⟨l.h,11,none⟩ (I Z ((H.Bc-Bo ob.size:Nat):Int))):=hs0.setCell (by rw[h.oh];exact⟨rfl,by simp⟩) _
    have hs1':Stp (fun t=>t=(l.id,2)\/t=(l.id,0)) o o w (W.setCell ⟨l.h,11,none⟩ (I Z ((H.Bc-Bo ob.size:Nat):Int))):=(Stp.BR hWr (by rw[h.ow];exact .inl rfl)).setCell (by rw[h.oh];exact .inr rfl) _
    have hrc:=h.rc.Ao hs1' (by cases H.use<;>simp)
    have hro:=h.ro.Ao hs1' (by cases H.use<;>simp)
    have hrw:=h.rw.Ao hs1' (by simp)
    have hrf:=h.rf.Ao hs1' (by simp)
    have hWd2:=hWd.wr (Wr.set l.h W 11 (I Z ((H.Bc-Bo ob.size:Nat):Int))) (by intro e;have h1:=h.oa;rw[e,h.oh]at h1;simp at h1) (fun e=>h.E8 e.symm)
    refine (qm2 (H:={ H with Bc:=H.Bc-Bo ob.size }) hB hrc (by
     have:=po _ _ _ hk.cl hk.ck;omega) h.oh H.top (H.top+Bo ob.size)).mono ?_
    rintro e w' ⟨rfl,vc',o',g1,g2,g3⟩
    have hne:∀ j,j≠0->(l.id,j)≠l.tc H.use->¬((l.id,j)=(l.id,0)\/(l.id,j)=l.tc H.use):=fun j h1 h2 h=>h.elim (fun e=>h1 (by simpa using e)) h2
    have hneC:∀ j,j≠3->j≠4->(l.id,j)≠l.tc H.use:=fun j h3 h4 e=>by unfold Ba.tc at e;cases hu:H.use<;>rw[hu]at e<;>simp at e<;>omega
    refine⟨rfl,vc',FE f p H.top ob.size,o',?_,?_⟩
    ·refine h.RQ hk hp (by rw[H.Bw hp];exact g1) (hWd2.Ao g3 ?_ ?_) g2 (hro.Ao g3 ?_) (hrw.Ao g3 (hne _ (by simp) (hneC _ (by simp) (by simp)))) (hrf.Ao g3 (hne _ (by simp) (hneC _ (by simp) (by simp)))) (fun b hb=>(g3.tags b (Qn hb hs1.size)).trans (hs1.tags b hb))
     ·rw[h.oa];exact hne _ (by simp) (hneC _ (by simp) (by simp))
     ·rw[h.ow];exact hne _ (by simp) (hneC _ (by simp) (by simp))
     ·unfold Ba.tc;cases H.use<;>simp
    ·exact hs1.trans (g3.mono fun t ht=>by
      rcases ht with rfl|rfl
      ·exact⟨rfl,by simp⟩
      ·exact KH _ _)
   rcases (show H.use=false\/H.use=true by cases H.use<;>simp) with hu|hu
   ·have e0:H.base H.use=1:=by rw[hu];rfl
    have e1:∀ (x:Nat) (v1:Ac),{ H with Bc:=x }.cells l.a v1 vo vw vf=#[Ag (some ⟨l.a,0,none⟩),I Z 1,I Z H.size,I Z H.top,I Z (1+(H.size:Int)),I Z H.size,I Z H.BD,v1,vo,I Z 0,.bool H.AF,I Z x,I Z H.scan,I Z H.Ax,vw,vf]:=fun x v1=>by
     unfold Hp.cells;simp only[hu,Bool.false_eq_true,if_false]
    rw[e0]at hcp hQ htop hroom;rw[show H.cells l.a vc vo vw vf={ H with Bc:=H.Bc }.cells l.a vc vo vw vf from rfl,e1]at hbl;simp only[e1]at hQ;refine (Ma hbl hth hcp h.E8 h.B5.lt h.B5.B2.lt ⟨by omega,by omega⟩ ⟨htop,by omega,by omega,by omega⟩ _ hQ).mono ?_
    rintro e w' ⟨rfl,hq⟩
    exact⟨by rw[H.Bw hp],hq⟩
   ·have e0:H.base H.use=1+H.size:=by rw[hu];rfl
    have e1:∀ (x:Nat) (v1:Ac),{ H with Bc:=x }.cells l.a v1 vo vw vf=#[Ag (some ⟨l.a,0,none⟩),I Z 1,I Z H.size,I Z H.BD,I Z (1+(H.size:Int)),I Z H.size,I Z H.top,vo,v1,I Z 1,.bool H.AF,I Z x,I Z H.scan,I Z H.Ax,vw,vf]:=fun x v1=>by
     unfold Hp.cells;simp only[hu,if_true]
    rw[e0]at hcp hQ htop hroom;have e2:((1+H.size:Nat):Int)=1+(H.size:Int):=by omega
    unfold Dg at hcp hQ;rw[e2]at hcp hQ;rw[show H.cells l.a vc vo vw vf={ H with Bc:=H.Bc }.cells l.a vc vo vw vf from rfl,e1]at hbl;simp only[e1]at hQ;refine (K6 hbl hth hcp h.E8 h.B5.lt h.B5.B2.lt ⟨by omega,by omega⟩ ⟨htop,by omega,by omega,by omega⟩ _ hQ).mono ?_
    rintro e w' ⟨rfl,hq⟩
    exact⟨by rw[H.Bw hp],hq⟩
end
end
section
open Go.RowKit Hp
attribute [local go_sem ↓] Go.wp_at_zero Go.wp_at_succ
section
variable {w : Aa} {o : Own} {l : Ba} {H : Hp} {vc vo vw vf : Ac} {f : Nat -> Nat}
theorem FI.after {w' w'':Aa}{o':Own}{H':Hp}(h1:Stp (zd l) o o' w w')(h2:FI w' o' l H' vo vw vf w''):FI w o l H' vo vw vf w'':=by
 obtain⟨vc',f',o2,h3,h4⟩:=h2;exact⟨vc',f',o2,h3,h1.trans h4⟩
theorem AE.D7 {w':Aa}(h:AE w o l H vc vo vw vf f)(hk:H.ok){p:Nat}{ob ob':Ob}(hp:lk H.cur p=some ob){k v:Nat}(hkk:k<ob.size)
  (hT:Br w w' l.a l.wd (2*H.size+1) (upd f (p+k) v))(ho:Bi (upd f (p+k) v) p ob'):FI w o l { H with cur:=up H.cur p ob' } vo vw vf w':=
 ⟨vc,_,o,h.turn hk hp hkk hT ho,Stp.BR hT.2 (by rw[h.ow];exact⟨rfl,by simp⟩)⟩
theorem GQ (h:AE w o l H vc vo vw vf f)(hw:H.wf)(p i:Nat) :
  Ab Tryz.prog 112 #[Ag (some ⟨l.h,0,none⟩),I Z p,I Z i] w fun e w'=>e=O (Aj #[I Z ((H.A5 p i).2.1:Nat),I Z ((H.A5 p i).2.2:Nat)])/\FI w o l (H.A5 p i).1 vo vw vf w':=by
 have hk:=hw.ok;unfold Hp.A5
 cases hp:lk H.cur p with
 | none=>exact (Lf h hk hp i).mono fun _ _ ⟨a,b⟩=>⟨a,h.BB b⟩
 | some ob =>
  simp only;have ho:=hw.EJ hp
  cases hx:ob.AL[i]? with
  | none=>exact (JW h hk hp i (by have:=List.getElem?_eq_none_iff.1 hx;rw[ho.lp]at this;exact this)).mono fun _ _ ⟨a,b⟩=>⟨a,h.BB b⟩
  | some x =>
   simp only;obtain⟨ha,_,hl,_⟩:=h.at_ hk hp;have HH:=Qa (ju h hk hp);have HN:=Qa (fun w' (hw:Ae w.heap.size w w')=>rv (h.B5.below hw) ha ho hl i x hx p i rfl rfl)
   have HC:=Qa (fun w' (hw:Ae w.heap.size w w')=>(h.below hw).A7)
   have HT:=(fun w' (hw:Ae w.heap.size w w')=>di (h.below hw) hk x)
   cases ht:(Bj H.old x).isSome with
   | false =>
    rw[ht]at HT;replace HT:=Qa HT;have HI:=Qa h;clear h hk hw hp ha ho hl hx ht;rw[if_neg (by simp)]
    go_enter Tryz.func112,Tryz.ntmps112;go_wp2_with fail;refine HH.out.mono ?_
    rintro e w1 ⟨rfl,hb1⟩
    have c1:=HC.out _ hb1;go_wp2_with fail;refine (HN.out _ hb1).mono ?_
    rintro e w2 ⟨rfl,hb2⟩
    go_wp2_with fail;refine (HT.out _ (qd hb1 hb2)).mono ?_
    rintro e w3 ⟨rfl,hb3⟩
    go_wp2_with fail;go_ret2;exact⟨rfl,HI.out.BB (qd (qd hb1 hb2) hb3)⟩
   | true =>
    rw[ht]at HT;replace HT:=Qa HT;rw[if_pos rfl];have HM:=(fun w' (hw:Ae w.heap.size w w')=>dr (h.below hw) hk x)
    have hmk:=Hp.Cs hk x;have hmb:=sq hk (ho.ptr x (Qe hx));have hmp:=yp (p:=x) hp;have hsz:=(ga (H:=H) x).1;have hip:i<ob.AN.p:=by have:=(Qc.1 hx).1;rw[ho.lp]at this;exact this
    generalize H.AA x=r at *;obtain⟨H',q⟩:=r;simp only at HM hmk hmb hmp hsz ⊢;have HE:=Qa (fun (w1 w':Aa)(o1:Own) vc1 f1 (h1:AE w1 o1 l H' vc1 vo vw vf f1) hT=>h1.D7 (w':=w') hmk hmp (k:=3+i) (by unfold Ob.size;omega) hT (by rw[show p+(3+i)=p+3+i from by omega];exact (h1.at_ hmk hmp).1.A4 ho i q hip))
    rw[show p+(3+i)=p+3+i from by omega]at HE
    have HS:=Qa (fun (w1:Aa)(o1:Own) vc1 f1 (h1:AE w1 o1 l H' vc1 vo vw vf f1)=>xq h1.B5 (h1.at_ hmk hmp).1 ho (h1.at_ hmk hmp).2.2.1 i q hip hmb p i q rfl rfl rfl)
    replace HM:=Qa HM;clear h hk hw hp ha ho hl hx ht hmk hmb hmp hip hsz;go_enter Tryz.func112,Tryz.ntmps112;go_wp2_with fail;refine HH.out.mono ?_
    rintro e w1 ⟨rfl,hb1⟩
    have c1:=HC.out _ hb1;go_wp2_with fail;refine (HN.out _ hb1).mono ?_
    rintro e w2 ⟨rfl,hb2⟩
    go_wp2_with fail;refine (HT.out _ (qd hb1 hb2)).mono ?_
    rintro e w3 ⟨rfl,hb3⟩
    go_wp2_with fail;refine (HM.out _ (qd (qd hb1 hb2) hb3)).mono ?_
    rintro e w4 ⟨rfl,vc4,f4,o4,h4,hs4⟩
    have c4:=h4.A7;go_wp2_with fail;refine (HS.out _ _ _ _ h4).mono ?_
    rintro e w5 ⟨rfl,hT5⟩
    go_wp2_with fail;go_ret2;exact⟨rfl,FI.after ((Stp.of_below (qd (qd hb1 hb2) hb3)).trans hs4) (HE.out _ _ _ _ _ h4 hT5)⟩
theorem Xr (h:AE w o l H vc vo vw vf f)(hw:H.wf)(p i q:Nat) :
  Ab Tryz.prog 113 #[Ag (some ⟨l.h,0,none⟩),I Z p,I Z i,I Z q] w fun e w'=>e=O (I Z ((H.A9 p i q).2:Nat))/\FI w o l (H.A9 p i q).1 vo vw vf w':=by
 have hk:=hw.ok;unfold Hp.A9
 cases hp:lk H.cur p with
 | none=>exact (WU h hk hp i q).mono fun _ _ ⟨a,b⟩=>⟨a,h.BB b⟩
 | some ob =>
  simp only;obtain⟨ha,ho,hl,_⟩:=h.at_ hk hp;have HH:=Qa (ju h hk hp);have HC:=Qa (fun w' (hw:Ae w.heap.size w w')=>(h.below hw).A7)
  have HI:=Qa h;by_cases hq:q≠0/\lk H.cur q=none
  ·rw[if_pos hq]
   have HQ:=Qa (fun w' (hw:Ae w.heap.size w w')=>xm (h.below hw) hk hq.2)
   have hqi:(q:Int)≠0:=by have:=hq.1;omega
   clear h hk hw hp ha ho hl hq;go_enter Tryz.func113,Tryz.ntmps113;go_wp2_with fail;refine HH.out.mono ?_
   rintro e w1 ⟨rfl,hb1⟩
   go_wp2_with fail;refine (HQ.out _ hb1).mono ?_
   rintro e w2 ⟨rfl,hb2⟩
   go_wp2_with fail;go_ret;exact⟨rfl,HI.out.BB (qd hb1 hb2)⟩
  ·rw[if_neg hq]
   by_cases hi:ob.AN.p<=i
   ·rw[if_pos hi]
    have HN:=Qa (fun w' (hw:Ae w.heap.size w w')=>qk0 (h.B5.below hw) ha ho hl i hi p i q rfl rfl)
    by_cases h0:q=0
    ·subst h0
     clear h hk hw hp ha ho hl hq hi;go_enter Tryz.func113,Tryz.ntmps113;go_wp2_with fail;refine HH.out.mono ?_
     rintro e w1 ⟨rfl,hb1⟩
     have c1:=HC.out _ hb1;go_wp2_with fail;refine (HN.out _ hb1).mono ?_
     rintro e w2 ⟨rfl,hb2⟩
     go_wp2_with fail;go_ret;exact⟨rfl,HI.out.BB (qd hb1 hb2)⟩
    ·obtain⟨oq,hoq⟩:∃ oq,lk H.cur q=some oq:=by
      cases hoq:lk H.cur q with
      | none=>exact absurd ⟨h0,hoq⟩ hq
      | some oq=>exact⟨oq,rfl⟩
     have HQ:=Qa (fun w' (hw:Ae w.heap.size w w')=>ju (h.below hw) hk hoq)
     have hqi:(q:Int)≠0:=by omega
     clear h hk hw hp ha ho hl hq hi hoq;go_enter Tryz.func113,Tryz.ntmps113;go_wp2_with fail;refine HH.out.mono ?_
     rintro e w1 ⟨rfl,hb1⟩
     go_wp2_with fail;refine (HQ.out _ hb1).mono ?_
     rintro e w2 ⟨rfl,hb2⟩
     have c1:=HC.out _ (qd hb1 hb2);go_wp2_with fail;refine (HN.out _ (qd hb1 hb2)).mono ?_
     rintro e w3 ⟨rfl,hb3⟩
     go_wp2_with fail;go_ret;exact⟨rfl,HI.out.BB (qd (qd hb1 hb2) hb3)⟩
   ·rw[if_neg hi]
    have hq':q=0\/(lk H.cur q).isSome=true:=by
     by_cases h0:q=0
     ·exact .inl h0
     ·refine .inr ?_
      cases hoq:lk H.cur q with
      | none=>exact absurd ⟨h0,hoq⟩ hq
      | some oq=>rfl
    refine (qiy h hk hp i q (by omega) hq').mono ?_
    rintro e w' ⟨rfl,_,⟨f',h'⟩,hw⟩
    exact⟨rfl,vc,f',o,h',Stp.BR hw (by rw[h.ow];exact⟨rfl,by simp⟩)⟩
end
theorem Lt {H:Hp}(hk:H.ok){p:Nat}{ob:Ob}(hp:lk H.cur p=some ob):up H.cur p ob=H.cur:=by
 unfold up;refine (List.map_congr_left fun x hx=>?_).trans (List.map_id _)
 split
 ·rename_i e
  obtain⟨q,y⟩:=x;simp only at e;subst e;rw[dv hk.cl hk.ck (zo hp) hx];rfl
 ·rfl
theorem yz:∀ (l:List Nat)(p:Nat)(H:Hp),H.As (l++[p])=(((H.As l).1.AA p).1,(H.As l).2++[((H.As l).1.AA p).2])
 | [],p,H=>rfl
 | q::l,p,H=>by
  have:=yz l p (H.AA q).1;show ((((H.AA q).1.As (l++[p])).1,(H.AA q).2::((H.AA q).1.As (l++[p])).2):Hp×List Nat)=_;rw[this];rfl
theorem F1 {H:Hp}(hw:H.wf)(hm:H.AF=true)(hs:H.scan≠H.top){ob:Ob}(hp:lk H.cur H.scan=some ob) :
  H.A8=({ (H.As ob.AJ).1 with cur:=up (H.As ob.AJ).1.cur H.scan (ob.Cr (H.As ob.AJ).2),scan:=H.scan+Bo ob.size },true):=by
 unfold Hp.A8;rw[if_neg (by rw[hm];simp[hs]),hp]
 simp only;unfold Ob.AJ Ob.Cr;split
 ·show _=(({ H with cur:=up H.cur H.scan ob,scan:=H.scan+Bo ob.size }:Hp),true)
  rw[Lt hw.ok hp]
 ·rfl
section
variable {w w' : Aa} {o : Own} {l : Ba} {H : Hp} {vc vo vw vf : Ac} {f : Nat -> Nat}
abbrev Di (l:Ba):Tag:=(l.id+1,0)
theorem Pe (l:Ba):¬zd l (Di l):=by unfold zd;simp
theorem AE.boxed (h:AE w o l H vc vo vw vf f){a:Addr}(ht:o a.block=Di l)(v:Ac):AE (w.setCell a v) o l H vc vo vw vf f:=by
 have hs:=(Stp.refl (fun t=>t=Di l) o w).setCell (a:=a) ht v
 have hn:∀ j,¬(l.id,j)=Di l:=fun j=>by simp
 exact⟨h.hb.Ao hs (by rw[h.oh];exact hn _),h.B5.Ao hs (by rw[h.oa];exact hn _) (by rw[h.ow];exact hn _),h.rc.Ao hs (hn _),h.ro.Ao hs (hn _),h.rw.Ao hs (hn _),h.rf.Ao hs (hn _),h.oh,h.oa,h.ow,h.E3,h.B8⟩
theorem set_mid {α:Type}(a b:List α)(x y:α):(a++x::b).set a.length y=(a++[y])++b:=by
 rw[List.set_append_right _ _ (Qk _)];simp
theorem AE.c0 (h:AE w o l H vc vo vw vf f):w.cell? ⟨l.h,0,none⟩=some (Ag (some ⟨l.a,0,none⟩)):=h.A7
theorem AE.FR (h:AE w o l H vc vo vw vf f):w.cell? ⟨l.h,12,none⟩=some (I Z H.scan):=by rw[h.hb.cell];unfold Hp.cells;split<;>rfl
theorem LD (h0 : AE w o l H vc vo vw vf f) (hw : H.wf) (hm : H.AF = true) (hs : H.scan ≠ H.top) :
    Ab Tryz.prog 129 #[Ag (some ⟨l.h, 0, none⟩)] w fun e w' => e = O (.bool H.A8.2) /\ FI w o l H.A8.1 vo vw vf w' := by
  obtain ⟨o1, ho1⟩ : ∃ o1, o1 = ext o w.heap.size (Di l) := ⟨_, rfl⟩
  have h := h0.retag (o' := o1) fun b hb => by rw [ho1]; exact qj hb
  have hS0 : Stp (zd l) o o1 w w := by rw [ho1]; exact (Stp.refl _ o w).ext _ _ (Qk _)
  have hbx : ∀ b, w.heap.size <= b -> o1 b = Di l := fun b hb => by rw [ho1]; exact qp hb
  have hext : ∀ n, w.heap.size <= n -> ext o1 n (Di l) = o1 := fun n hn => by rw [ho1]; exact rj _ _ _ _ hn
  clear ho1 h0
  obtain ⟨ob, hp, _⟩ := SC hw hm hs
  rw [F1 hw hm hs hp]
  have hk := hw.ok
  obtain ⟨ha, ho, hl, _⟩ := h.at_ hk hp
  have hsb := Ro hw hp
  have HM := Qa (wj h)
  rw [hm] at HM
  have HD := y9 h
  rw [decide_eq_false hs] at HD
  replace HD := Qa HD
  have HSh := Qa (fun (W : Aa) (hb : Ae w.heap.size w W) => jt (h.B5.below hb) ha ho hl H.scan rfl)
  have HSt := Qa (fun (W : Aa) (hb : Ae w.heap.size w W) => UZ (h.B5.below hb) ha ho hl)
  have HZ := Qa (fun W => xd ob.AN ho.AN W)
  have hob := Ob.AR ho
  have hsz : ob.size = 3 + ob.AN.p + ob.AN.d := rfl
  have HN := Qa (fun W => uu (3 + ob.AN.p + ob.AN.d) (by omega) (by omega) _ rfl W)
  have hpb : ∀ x ∈ ob.AJ, x <= 131072 := fun x hx => by
    unfold Ob.AJ at hx
    split at hx
    · cases hx
    · exact ho.ptr x hx
  have HI := Qa h
  have HS0 := Qa hS0
  have HB := Qa hbx
  have HE := Qa hext
  have HW := Qa hw
  have HP := Qa hp
  have HO := Qa ho
  have HPB := Qa hpb
  have HSB := Qa hsb
  have hl8 : ob.AJ.length <= 8 := by
    unfold Ob.AJ
    split
    · exact Nat.zero_le _
    · rw [ho.lp]; exact ho.AN.1
  have hok0 := h.hb.lt
  have c0 := fun W (hb : Ae w.heap.size w W) => (h.below hb).c0
  have FR := fun W (hb : Ae w.heap.size w W) => (h.below hb).FR
  have C0 := Qa c0
  have C12 := Qa FR
  clear c0 FR h hS0 hbx hext hw hm hs hp hk ha ho hl hpb hsb
  go_enter Tryz.func129, Tryz.ntmps129
  go_wp2_with fail
  refine HM.out.mono ?_
  rintro e w1 ⟨rfl, rfl⟩
  go_wp2_with fail
  refine HD.out.mono ?_
  rintro e w1 ⟨rfl, b1⟩
  have k0 := C0.out _ b1
  have k12 := C12.out _ b1
  have s1 : l.h < w1.heap.size := Qn hok0 b1.size
  have hn1 := World.new_ne w1 ⟨l.h, 0, none⟩ k0
  go_upto_region 3 with fail
  go_cut [3, 5] (fun t3 t5 wx => ∃ B, t3 = Ag (some ⟨B, 0, none⟩) /\ t5 = I Z 0 /\ Am wx B #[I Z ob.AN.p, I Z ob.AN.d, .bool ob.AN.Az, .bool ob.AN.final] 93 /\ Ae w1.heap.size w1 wx /\ w1.heap.size <= B)
  case first =>
    go_region_with (first | (go_at_call 130; refine (HSh.out _ (by first | exact qe b1 | exact qe (qa b1 _) | exact qa (qe b1) _)).mono ?_; rintro e w4 ⟨rfl, hb4⟩; try (have jB4 : Am w4 w1.heap.size #[I Z 0, I Z 0, .bool false, .bool false] 93 := Am.below (qi (Am.new w1 _ _)) hb4 (by simp); have cB4 := jB4.cell; have zB4 := jB4.free; have sB4 := jB4.lt)) | fail)
    all_goals
      go_wp2_with fail
      go_meet
      have hs4 : w1.heap.size <= w4.heap.size := by have := hb4.size; simp at this; omega
      first
        | (refine ⟨w4.heap.size, by with_reducible rfl, rfl, ?_, ?_, hs4⟩
           · exact Am.new _ _ _
           · exact qa (qd (qe (qc w1)) hb4) _)
        | (refine ⟨w1.heap.size, by with_reducible rfl, rfl, ?_, ?_, Qk _⟩
           · have h8 := (((jB4.set 0 (I Z ob.AN.p)).set 1 (I Z ob.AN.d)).set 2 (.bool ob.AN.Az)).set 3 (.bool ob.AN.final)
             simp only [Array.setIfInBounds_def] at h8
             simpa using h8
           · exact qo (qo (qo (qo (qd (qe (qa (qc w1) _)) hb4) (Qk _) _) (Qk _) _) (Qk _) _) (Qk _) _)
  case rest =>
    obtain ⟨B, rfl, rfl, jB, hbc, hBge⟩ := hcut
    have b2 := qd b1 hbc
    have hBw : w.heap.size <= B := Qo b1.size hBge
    clear k0 k12 s1 hn1 hbc b1 hBge
    have k0 := C0.out _ b2
    have k12 := C12.out _ b2
    go_upto_region 6 with fail
    go_cut [5, 6] (fun t5 t6 wx => ∃ pa cp, t5 = I Z 0 /\ t6 = .slice pa ob.AJ.length cp /\ Row wx o1 (Di l) 3 1 (.slice pa ob.AJ.length cp) ob.AJ.length (ob.AJ.map nv) /\ Ae w.heap.size w wx /\ Am wx B #[I Z ob.AN.p, I Z ob.AN.d, .bool ob.AN.Az, .bool ob.AN.final] 93 /\ ∀ b, (Value.slice pa ob.AJ.length cp).ownBlock = some b -> w.heap.size <= b)
    case first =>
      go_region_with (first | (go_at_call 194; refine (HSt.out _ (qe b2)).mono ?_; rintro e w6 ⟨v, rfl, hr6, hb6⟩) | fail)
      all_goals
        go_wp2_with fail
        go_meet
        obtain ⟨pa, cp, rfl⟩ := hr6.AY
        have hge := hr6.Ny
        have hr6 := hr6.out o1 (Di l)
        rw [HE.out _ (qe b2).size] at hr6
        exact ⟨pa, cp, rfl, rfl, hr6, qd (qe b2) hb6, (qi jB).below hb6 (qi jB).lt, fun b hb => Qo (qe b2).size (hge b hb)⟩
    case rest =>
    clear k0 k12
    obtain ⟨pa, cp, rfl, rfl, hr6, b6, jB6, hge6⟩ := hcut
    clear jB b2
    generalize wc = w6 at *
    obtain ⟨n, hn⟩ : ∃ n, n = ob.AJ.length := ⟨_, rfl⟩
    have HNn := Qa hn
    rw [<- hn] at hr6 hl8 ⊢
    have hnI : (n : Int) <= 8 := by omega
    have hr6' : Row w6 o1 (Di l) 3 1 (.slice pa n cp) n (((H.As (ob.AJ.take 0)).2 ++ ob.AJ.drop 0).map nv) := by simpa [Hp.As] using hr6
    have hI6 := HI.out.below b6
    have HGe := Qa hge6
    have hBt6 := HB.out B hBw
    have hS6 : Stp (zd l) o1 o1 w w6 := Stp.of_below b6
    clear hn hr6 b6 hge6
    go_wp2_with fail
    go_loopw [52] (fun ix wr => ∃ (k : Nat) (vc' : Ac) (f' : Nat -> Nat) (o' : Own), ix = I Z k /\ k <= n /\ AE wr o' l (H.As (ob.AJ.take k)).1 vc' vo vw vf f' /\ Stp (zd l) o1 o' w wr /\ Row wr o' (Di l) 3 1 (.slice pa n cp) n (((H.As (ob.AJ.take k)).2 ++ ob.AJ.drop k).map nv) /\ Am wr B #[I Z ob.AN.p, I Z ob.AN.d, .bool ob.AN.Az, .bool ob.AN.final] 93 /\ o' B = Di l) (fun ix _ => n - (intOf ix).toNat)
    case atStart => exact ⟨0, vc, f, o1, rfl, by omega, hI6, hS6, hr6', jB6, hBt6⟩
    case round =>
      obtain ⟨k, vc', f', o', rfl, hkn, hI, hS, hR, hJ, hBt⟩ := hrel
      clear hI6 hr6' jB6 hS6 hBt6
      by_cases hlt : k < n
      · have hkI : (k : Int) < (n : Int) := by omega
        have hk8 : (k : Int) < 8 := by omega
        obtain ⟨x, hx⟩ : ∃ x, ob.AJ[k]? = some x := ⟨_, Qb (by rw [<- HNn.out]; omega)⟩
        have htk := jj hx
        have FL : ob.AJ.drop k = x :: ob.AJ.drop (k + 1) := by
          have := (Qc.1 hx)
          obtain ⟨h1, h2⟩ := this
          rw [<- h2]; exact List.drop_eq_getElem_cons h1
        have hwk := (Hp.Cb (ob.AJ.take k) HW.out).ok
        have hsn := yz (ob.AJ.take k) x H
        rw [<- htk] at hsn
        have hlen : (H.As (ob.AJ.take k)).2.length = k := by rw [kp, Qp, <- HNn.out]; omega
        have HSn := Qa hsn
        rw [FL] at hR
        generalize H.As (ob.AJ.take k) = r at *
        obtain ⟨Hk, lk'⟩ := r
        simp only at hI hR hwk hlen HSn
        rcases hR.shape with ⟨_, h0⟩ | ⟨g, c, e1, hnc, hcm⟩
        · omega
        · injection e1 with e1 _ e3
          subst e1 e3
          have CY : (lk' ++ x :: ob.AJ.drop (k + 1)).set k (Hk.AA x).2 = (lk' ++ [(Hk.AA x).2]) ++ ob.AJ.drop (k + 1) := by
            have := set_mid lk' (ob.AJ.drop (k + 1)) x (Hk.AA x).2
            rwa [hlen] at this
          have cx : wr.cell? ⟨g, k, none⟩ = some (I Z x) := by
            refine hR.cells k _ ?_
            rw [Qj, Ql (by omega), hlen]; simp [nv]
          have HMv := Qa (dr hI hwk x)
          have HSet := Qa CY
          have HLen := Qa hlen
          have HSS := Qa hS
          have HR := Qa hR
          have HJ := Qa hJ
          have HBt := Qa hBt
          have hgl := hR.blt
          clear hsn FL htk CY hwk hlen hx hI hS hR hJ hBt
          go_wp2_with fail
          refine HMv.out.mono ?_
          rintro e w7 ⟨rfl, vc7, f7, o7, hI7, hS7⟩
          have hR7 := HR.out.Ao hS7 (Pe l)
          have hJ7 := HJ.out.Ao hS7 (by rw [HBt.out]; exact Pe l)
          have z7 := hR7.free k
          have s7 := hR7.blt
          obtain ⟨u7, c7⟩ : ∃ u, w7.cell? ⟨g, k, none⟩ = some u := by
            have h1 : k < (List.map nv (lk' ++ x :: ob.AJ.drop (k + 1))).length := by rw [hR7.len]; omega
            exact ⟨_, hR7.cells k _ (Qb h1)⟩
          have hfin := Qa (show ∃ (vc' : Ac) (f' : Nat -> Nat) (o' : Own), AE (w7.setCell ⟨g, k, none⟩ (I Z (Hk.AA x).2)) o' l (H.As (ob.AJ.take (k + 1))).1 vc' vo vw vf f' /\ Stp (zd l) o1 o' w (w7.setCell ⟨g, k, none⟩ (I Z (Hk.AA x).2)) /\ Row (w7.setCell ⟨g, k, none⟩ (I Z (Hk.AA x).2)) o' (Di l) 3 1 (Ah (some ⟨g, 0, none⟩) n cp) n (((H.As (ob.AJ.take (k + 1))).2 ++ ob.AJ.drop (k + 1)).map nv) /\ Am (w7.setCell ⟨g, k, none⟩ (I Z (Hk.AA x).2)) B #[I Z ob.AN.p, I Z ob.AN.d, .bool ob.AN.Az, .bool ob.AN.final] 93 /\ o' B = Di l from by
            have hgB : B ≠ g := fun e => by
              subst e
              have h1 := hJ7
              unfold Am at h1
              rcases hR7.own.2 with ⟨h', _⟩ | ⟨g', cap', cur, h', _, hg, _⟩
              · simp at h'
              · injection h' with h' _ _
                injection h' with h'
                injection h' with h' _ _
                subst h'
                rw [h1] at hg
                injection hg with hg
                injection hg with _ hg _
                exact absurd hg (by decide)
            rw [HSn.out]
            refine ⟨vc7, f7, o7, hI7.boxed hR7.El _, ?_, ?_, hJ7.An hgB _, (hS7.tags _ HJ.out.lt).trans HBt.out⟩
            · exact (HSS.out.trans hS7).setCell_new (HGe.out g rfl) _
            · have := hR7.Kz k (I Z (Hk.AA x).2)
              rw [show (Value.int IntKind.i64 ((Hk.AA x).2 : Nat)) = nv (Hk.AA x).2 from rfl, <- List.map_set, HSet.out] at this
              exact this)
          clear hR7 hJ7 hS7 hI7
          go_wp2_with fail
          obtain ⟨vc8, f8, o8, g1, g2, g3, g4, g5⟩ := hfin.out
          go_roundw
          case rel => exact ⟨k + 1, vc8, f8, o8, by simp, by omega, g1, g2, g3, g4, g5⟩
          case measure => simp [intOf]; omega
      · obtain rfl : k = n := by omega
        clear hlt
        rw [HNn.out, List.take_length] at hI
        rw [HNn.out, List.take_length, List.drop_length, List.append_nil, <- HNn.out] at hR
        have hwk := (Hp.Cb ob.AJ HW.out)
        have hmp := pj ob.AJ HP.out
        have hpb := SQ ob.AJ HW.out.ok HPB.out
        have hlen := kp ob.AJ H
        obtain ⟨s1, s2, s3, s4, s5, s6, s7, s8⟩ := wq ob.AJ H
        have hsc : (H.As ob.AJ).1.scan = H.scan := s4
        clear s1 s2 s3 s4 s5 s6 s7 s8
        generalize hr : H.As ob.AJ = r at *
        obtain ⟨Hk, ps⟩ := r
        have HRr := Qa hr
        clear hr
        simp only at hI hR hwk hmp hpb hlen hsc
        obtain ⟨ha, ho, hl, _⟩ := hI.at_ hwk.ok hmp
        have hstW : ∀ W', Wr l.wd wr W' -> Ints W' (.slice pa k cp) ps := fun W' hWr => by
          have := (hR.Ao (Stp.BR (T := fun t => t = (l.id, 2)) hWr hI.ow) (by simp))
          rw [show k = ps.length from by rw [hlen, HNn.out]] at this ⊢
          exact this.ints
        have HSP := Qa (Wd (hI.B5.below (qe (qc wr))) ha ho hl ps hpb (by rw [hlen]) (v := .slice pa k cp) (fun W' hWr => hstW W' hWr.D9))
        have c0 := hI.c0
        have FR := hI.FR
        rw [hsc] at FR
        have HII := Qa hI
        have HSS := Qa hS
        have HJ := Qa hJ
        have HWk := Qa hwk
        have HMp := Qa hmp
        have hneB : B ≠ l.wd := fun e => by have h1 := hBt; rw [e, hI.ow] at h1; simp at h1
        have HNe := Qa hneB
        have hsbi := HSB.out
        have hsbI : (H.scan : Int) + (Bo ob.size : Int) <= 65536 := by omega
        clear hI hS hR hJ hBt hwk hmp hpb hlen ha ho hl hstW hneB
        go_upto_region 14 with fail
        go_still_tail 9, (by kernel_rfl)
        change wpList _ _ _ _ _ wr.drew
        go_wp2_with fail
        refine HSP.out.mono ?_
        rintro e w9 ⟨rfl, f9, hW9, hR9, hO9, hE9⟩
        have hI9 := (HII.out.below (qe (qc wr))).Mf HWk.out.ok HMp.out hW9 hR9 hE9 hO9
        have hJ9 := (qi HJ.out).wr hR9 HNe.out
        have hS9 : Stp (zd l) o1 o' w w9 := HSS.out.trans ((Stp.of_below (qe (qc wr))).trans (Stp.BR hR9 (by rw [HII.out.ow]; exact ⟨rfl, by simp⟩)))
        clear c0 FR hW9 hR9 hO9 hE9
        have cB := hJ9.cell
        go_wp2_with fail
        refine (HZ.out _).mono ?_
        rintro e w10 ⟨rfl, hb10⟩
        clear cB
        go_wp2_with fail
        refine (HN.out _).mono ?_
        rintro e w11 ⟨rfl, hb11⟩
        have hI11 := (hI9.below hb10).below hb11
        have hS11 := (hS9.trans (Stp.of_below hb10)).trans (Stp.of_below hb11)
        clear hI9 hb10 hb11 hS9 hJ9
        have FR := hI11.FR
        have z12 := hI11.hb.free 12
        have s12 := hI11.hb.lt
        simp only [hsc] at FR
        rw [hsz] at hsbI
        have hfin := Qa (show FI w o l { Hk with cur := up Hk.cur H.scan (ob.Cr ps), scan := H.scan + Bo ob.size } vo vw vf (w11.setCell ⟨l.h, 12, none⟩ (I Z ((H.scan : Int) + (Bo (3 + ob.AN.p + ob.AN.d) : Nat)))) from by
          have e1 : ((H.scan : Int) + (Bo (3 + ob.AN.p + ob.AN.d) : Nat)) = ((H.scan + Bo ob.size : Nat) : Int) := by rw [hsz]; omega
          rw [e1]
          have hb := hI11.hb.set 12 (I Z ((H.scan + Bo ob.size : Nat) : Int))
          rw [qiu] at hb
          exact ⟨vc', f9, o', hI11.FL hb ((Stp.refl _ o' w11).setCell (by exact hI11.oh) _) rfl rfl rfl rfl rfl rfl, HS0.out.trans (hS11.setCell (by show zd l (o' l.h); rw [hI11.oh]; exact ⟨rfl, by simp⟩) _)⟩)
        clear hI11 hS11 hsz
        go_wp2_with fail
        go_ret
        exact ⟨rfl, by rw [HRr.out]; exact hfin.out⟩
theorem Ll (h:AE w o l H vc vo vw vf f)(hm:H.AF=false\/H.scan=H.top) :
  Ab Tryz.prog 129 #[Ag (some ⟨l.h,0,none⟩)] w fun e w'=>e=O (.bool false)/\Ae w.heap.size w w':=by
 have HM:=wj h;have HD:=y9 h;rcases hm with hm|hm
 ·rw[hm]at HM
  replace HM:=Qa HM;clear h hm HD;go_enter Tryz.func129,Tryz.ntmps129;go_wp2_with fail;refine HM.out.mono ?_
  rintro e w1 ⟨rfl,rfl⟩
  go_wp2_with fail;go_ret;exact⟨rfl,qc _⟩
 ·rw[decide_eq_true hm]at HD
  generalize H.AF=mv at HM;replace HM:=Qa HM;replace HD:=Qa HD;clear h hm
  cases mv
  ·go_enter Tryz.func129,Tryz.ntmps129
   go_wp2_with fail;refine HM.out.mono ?_
   rintro e w1 ⟨rfl,rfl⟩
   go_wp2_with fail;go_ret;exact⟨rfl,qc _⟩
  ·go_enter Tryz.func129,Tryz.ntmps129
   go_wp2_with fail;refine HM.out.mono ?_
   rintro e w1 ⟨rfl,rfl⟩
   go_wp2_with fail;refine HD.out.mono ?_
   rintro e w1 ⟨rfl,hb⟩
   go_wp2_with fail;go_ret;exact⟨rfl,hb⟩
theorem JH (h:AE w o l H vc vo vw vf f)(hw:H.wf) :
  Ab Tryz.prog 129 #[Ag (some ⟨l.h,0,none⟩)] w fun e w'=>e=O (.bool H.A8.2)/\FI w o l H.A8.1 vo vw vf w':=by
 by_cases hm:H.AF=false\/H.scan=H.top
 ·have e1:H.A8=(H,false):=by unfold Hp.A8;rw[if_pos hm]
  rw[e1];exact (Ll h hm).mono fun _ _ ⟨a,b⟩=>⟨a,h.BB b⟩
 ·refine LD h hw ?_ fun e=>hm (.inr e)
  cases hmm:H.AF
  ·exact absurd (.inl hmm) hm
  ·rfl
end
theorem Hr {n:Nat}(h:n<=1099511627776):n+1<=maxLen/\(n+1)*8<=140737488355328:=by
 simp only[maxLen];omega
def T2 (t:Tag):Prop:=t=(1,0)\/t=(2,0)
def Et:Own:=fun _=>(0,0)
theorem T2.below {w w':Aa}{o':Own}(h:Stp T2 Et o' w w'):Ae w.heap.size w w':=h.below fun b _ hh=>by rcases hh with hh|hh<;>simp[Et]at hh
def mix (o o':Own)(n:Nat)(t1 t2:Tag):Own:=fun b=>if b<n then o b else if o' b=(1,0) then t1 else t2
theorem Sv {o o':Own}{n b:Nat}{t1 t2:Tag}(h:b<n):mix o o' n t1 t2 b=o b:=by unfold mix;rw[if_pos h]
theorem Row.Nj {w w':Aa}{o':Own}{e:TypeId}{size k:Nat}{v:Ac}{xs:List Ac}(hs:Stp T2 Et o' w w')(h:Row w' o' (1,0) e size v k xs)(o:Own)(t1 t2:Tag):Row w' (mix o o' w.heap.size t1 t2) t1 e size v k xs:=by
 refine⟨h.own,fun b hb=>?_⟩
 have h1:=h.tag b hb;unfold mix;rw[if_neg,if_pos h1];intro h2;rw[hs.tags b h2]at h1;simp[Et]at h1
theorem Row.Sx {w w':Aa}{o':Own}{e:TypeId}{size k:Nat}{v:Ac}{xs:List Ac}(hs:Stp T2 Et o' w w')(h:Row w' o' (2,0) e size v k xs)(o:Own)(t1 t2:Tag):Row w' (mix o o' w.heap.size t1 t2) t2 e size v k xs:=by
 refine⟨h.own,fun b hb=>?_⟩
 have h1:=h.tag b hb;unfold mix;rw[if_neg,if_neg]
 ·rw[h1];simp
 ·intro h2
  rw[hs.tags b h2]at h1;simp[Et]at h1
theorem Row.LH {w w':Aa}{o':Own}{e:TypeId}{size k:Nat}{v:Ac}{xs:List Ac}(hs:Stp T2 Et o' w w')(h:Row w' o' (2,0) e size v k xs):∀ b,v.ownBlock=some b->w.heap.size<=b:=fun b hb=>by
 have h1:=h.tag b hb;refine Nat.le_of_not_lt fun h2=>?_
 rw[hs.tags b h2]at h1;simp[Et]at h1
theorem YR (H:Hp)(l:List Nat)(p:Nat):H.stay (l++[p])=H.stay l++(match H.nowAt p with|some q=>[q]|none=>[]):=by
 unfold Hp.stay;rw[List.filterMap_append]
 cases h:H.nowAt p<;>simp[h]
theorem qm6 (H:Hp)(l:List Nat)(p:Nat):H.Cc (l++[p])=H.Cc l++(match H.nowAt p with|some _=>[]|none=>[p]):=by
 unfold Hp.Cc;rw[List.filter_append]
 cases h:H.nowAt p<;>simp[h]
section
variable {w w' : Aa} {o : Own} {l : Ba} {H : Hp} {vc vo vw vf : Ac} {f : Nat -> Nat}
theorem Tv (h:AE w o l H vc vo vw vf f)(hk:H.ok){p:Nat}{ob:Ob}(hp:Bj H.old p=some (ob,none)) :
  Ab Tryz.prog 181 #[Ag (some ⟨l.a,0,none⟩),I Z p] w fun e w'=>e=O (Aj #[I Z 0,.bool false])/\w=w':=by
 obtain⟨ho,_,_,hl⟩:=N5 hk hp;exact Jt h.B5 ((h.B8 _ (jf hp)).1 rfl) ho hl
theorem UM (h:AE w o l H vc vo vw vf f)(hk:H.ok){p q:Nat}{ob:Ob}(hp:Bj H.old p=some (ob,some q)) :
  Ab Tryz.prog 181 #[Ag (some ⟨l.a,0,none⟩),I Z p] w fun e w'=>e=O (Aj #[I Z q,.bool true])/\w=w':=by
 obtain⟨ho,_,_,hl⟩:=N5 hk hp;have hs:=Ob.AR ho;have hq:=hk.gone _ (jf hp) q rfl;exact Vy h.B5 (by omega) q hq.1 hq.2 ((h.B8 _ (jf hp)).2 q rfl)
theorem ni (h:AE w o l H vc vo vw vf f)(hk:H.ok)(ps:List Nat)(hps:ps.length<=1099511627776){v:Ac}(hv:Ints w v ps) :
  Ab Tryz.prog 241 #[Ag (some ⟨l.h,0,none⟩),v] w fun e w'=>∃ v1 v2 o',e=O (Aj #[v1,v2]) /\
   Row w' o' (1,0) 3 1 v1 (H.stay ps).length ((H.stay ps).map nv)/\Row w' o' (2,0) 3 1 v2 (H.Cc ps).length ((H.Cc ps).map nv)/\Stp T2 Et o' w w':=by
 have HI:=Qa h;have HK:=Qa hk;have HV:=Qa (fun w' (hb:Ae w.heap.size w w')=>hv.below hb)
 have HPS:=Qa hps;obtain⟨va,vcp,rfl⟩:∃ a c,v=.slice a ps.length c:=by
  obtain⟨a',c',e,_⟩:=hv;exact⟨a',c',e⟩
 obtain⟨n,hn⟩:∃ n:Nat,n=ps.length:=⟨_,rfl⟩;have HN:=Qa hn;rw[<-hn]at HV hps ⊢;have hnI:(n:Int)<=1099511627776:=by omega
 obtain⟨iI,hi,hsI,hyI,hzI⟩:=zi;have hu64:=Tryz.underlying25;clear h hk hv hps hn;go_enter Tryz.func241,Tryz.ntmps241;go_wp2_with fail;go_loopw [4,5,12] (fun a b ix wr=>∃ (k:Nat)(o':Own),ix=I Z k/\k<=n/\Row wr o' (1,0) 3 1 a (H.stay (ps.take k)).length ((H.stay (ps.take k)).map nv)/\Row wr o' (2,0) 3 1 b (H.Cc (ps.take k)).length ((H.Cc (ps.take k)).map nv)/\Stp T2 Et o' w wr) (fun _ _ ix _=>n-(intOf ix).toNat)
 case atStart=>exact⟨0,Et,rfl,by omega,Row.nil _ _ _ _ _,Row.nil _ _ _ _ _,Stp.refl _ _ _⟩
 case round =>
  obtain⟨k,o',rfl,hkn,hr1,hr2,hS⟩:=hrel;by_cases hlt:k<n
  ·have hkI:(k:Int)<(n:Int):=by omega
   have hk40:(k:Int)<1099511627776:=by omega
   obtain⟨x,hx⟩:∃ x,ps[k]?=some x:=⟨_,Qb (by rw[<-HN.out];omega)⟩
   have htk:=jj hx;have hbr:=T2.below hS;have hst:=YR H (ps.take k) x;have hgn:=qm6 H (ps.take k) x;rw[<-htk]at hst hgn;have hsl:=kr H (ps.take k);have htl:(ps.take k).length=k:=by rw[Qp,<-HN.out];omega
   have hTh:=di (HI.out.below hbr) HK.out x;rcases (HV.out wr hbr).form with ⟨e1,_⟩|⟨g,off,c,e1,hnc,hcm,hg,hcell⟩
   ·rw[e1]at hx;simp at hx
   ·injection e1 with e1 e2 e3
    subst e1 e3;clear e2;have cx:wr.cell? ⟨g,off+k,none⟩=some (I Z x):=hcell k x hx;have hlen1:(H.stay (ps.take k)).length<=1099511627776/\(H.Cc (ps.take k)).length<=1099511627776:=by have:=HPS.out;have:=HN.out;omega
    obtain⟨hlen1,hlen2⟩:=hlen1;have HL1:=Qa (Hr hlen1);have HL2:=Qa (Hr hlen2);have HS:=Qa hS;have HR1:=Qa hr1;have HR2:=Qa hr2;obtain⟨pa1,cp1,rfl⟩:=hr1.AY;obtain⟨pa2,cp2,rfl⟩:=hr2.AY;unfold Hp.nowAt at hst hgn;clear hcell hsl htl htk hS hr1 hr2 hlen1 hlen2
    cases ho:Bj H.old x with
    | none =>
     rw[ho]at hTh hst hgn;have HTh:=Qa hTh;have HSt:=Qa hst;have HGn:=Qa hgn;clear hTh hst hgn ho hx;go_wp2_with fail;refine HTh.out.mono ?_
     rintro e w3 ⟨rfl,hb3⟩
     go_wp2_with (first|(at_builtin;refine qf _ rfl _ _ _ rfl 3 iI _ 1 8 hu64 hi hzI hsI hyI rfl (by decide) o' (1,0) _ _ _ rfl (Row.below (Row.below HR1.out hb3) (qa (qc w3) _)) ⟨w3.heap.size,0,none⟩ 1 1 [I Z x] rfl rfl (qx (Am.new w3 _ _)) zw HL1.out.1 HL1.out.2 ?_;intro v' w8 hown hst;obtain⟨pa8,cp8,rfl⟩:=hown.AY)|fail)
     have hS3:Stp T2 Et o' w (w3.alloc (.cells #[I Z x] 3)):=(HS.out.trans (Stp.of_below hb3)).trans (Stp.of_below (qa (qc w3) _));have hS8:=hS3.trans (hst.mono fun _ e=>Or.inl e)
     have hR2:=(Row.below (Row.below HR2.out hb3) (qa (qc w3) (.cells #[I Z x] 3))).Ao hst (by simp)
     go_roundw
     case rel=>exact⟨k+1,_,by simp,by omega,by rw[HSt.out,Qd,ko];exact hown,by rw[HGn.out];simpa using hR2,hS8⟩
     case measure=>simp[intOf];omega
    | some z =>
     obtain⟨ob,gq⟩:=z;rw[ho]at hTh hst hgn;have HTh:=Qa hTh;have HSt:=Qa hst;have HGn:=Qa hgn;have HC0:=Qa (fun w4 (hb:Ae w.heap.size w w4)=>(HI.out.below hb).c0)
     cases gq with
     | none =>
      have HAt:=Qa (fun w4 (hb:Ae w.heap.size w w4)=>Tv (HI.out.below hb) HK.out ho)
      clear hTh hst hgn ho hx;go_wp2_with fail;refine HTh.out.mono ?_
      rintro e w3 ⟨rfl,hb3⟩
      have c0:=HC0.out _ (qd hbr hb3);go_wp2_with fail;refine (HAt.out _ (qd hbr hb3)).mono ?_
      rintro e w4 ⟨rfl,rfl⟩
      clear c0;go_wp2_with (first|(at_builtin;refine qf _ rfl _ _ _ rfl 3 iI _ 1 8 hu64 hi hzI hsI hyI rfl (by decide) o' (2,0) _ _ _ rfl (Row.below (Row.below HR2.out hb3) (qa (qc w3) _)) ⟨w3.heap.size,0,none⟩ 1 1 [I Z x] rfl rfl (qx (Am.new w3 _ _)) zw HL2.out.1 HL2.out.2 ?_;intro v' w8 hown hst;obtain⟨pa8,cp8,rfl⟩:=hown.AY)|fail)
      have hS3:Stp T2 Et o' w (w3.alloc (.cells #[I Z x] 3)):=(HS.out.trans (Stp.of_below hb3)).trans (Stp.of_below (qa (qc w3) _));have hS8:=hS3.trans (hst.mono fun _ e=>Or.inr e)
      have hR1:=(Row.below (Row.below HR1.out hb3) (qa (qc w3) (.cells #[I Z x] 3))).Ao hst (by simp)
      go_roundw
      case rel=>exact⟨k+1,_,by simp,by omega,by rw[HSt.out];simpa using hR1,by rw[HGn.out,Qd,ko];exact hown,hS8⟩
      case measure=>simp[intOf];omega
     | some q =>
      have HAt:=Qa (fun w4 (hb:Ae w.heap.size w w4)=>UM (HI.out.below hb) HK.out ho)
      clear hTh hst hgn ho hx;go_wp2_with fail;refine HTh.out.mono ?_
      rintro e w3 ⟨rfl,hb3⟩
      have c0:=HC0.out _ (qd hbr hb3);go_wp2_with fail;refine (HAt.out _ (qd hbr hb3)).mono ?_
      rintro e w4 ⟨rfl,rfl⟩
      clear c0;go_wp2_with (first|(at_builtin;refine qf _ rfl _ _ _ rfl 3 iI _ 1 8 hu64 hi hzI hsI hyI rfl (by decide) o' (1,0) _ _ _ rfl (Row.below (Row.below HR1.out hb3) (qa (qc w3) _)) ⟨w3.heap.size,0,none⟩ 1 1 [I Z q] rfl rfl (qx (Am.new w3 _ _)) zw HL1.out.1 HL1.out.2 ?_;intro v' w8 hown hst;obtain⟨pa8,cp8,rfl⟩:=hown.AY)|fail)
      have hS3:Stp T2 Et o' w (w3.alloc (.cells #[I Z q] 3)):=(HS.out.trans (Stp.of_below hb3)).trans (Stp.of_below (qa (qc w3) _));have hS8:=hS3.trans (hst.mono fun _ e=>Or.inl e)
      have hR2:=(Row.below (Row.below HR2.out hb3) (qa (qc w3) (.cells #[I Z q] 3))).Ao hst (by simp)
      go_roundw
      case rel=>exact⟨k+1,_,by simp,by omega,by rw[HSt.out,Qd,ko];exact hown,by rw[HGn.out];simpa using hR2,hS8⟩
      case measure=>simp[intOf];omega
  ·obtain rfl:k=n:=by omega
   rw[HN.out,List.take_length]at hr1 hr2;go_wp2_with fail;go_ret2;exact⟨_,_,o',rfl,hr1,hr2,hS⟩
end
section
variable {w w' : Aa} {o : Own} {l : Ba} {H : Hp} {vc vo vw vf : Ac} {f : Nat -> Nat}
theorem WL (H:Hp)(a:Nat)(vc vo vw vf v:Ac)(ps:List Nat):(H.cells a vc vo vw vf).setIfInBounds 15 v={ H with final:=ps }.cells a vc vo vw v:=by
 unfold Hp.cells;cases H.use<;>rfl
theorem WN (H:Hp)(a:Nat)(vc vo vw vf v:Ac)(ps:List Nat):(H.cells a vc vo vw vf).setIfInBounds 14 v={ H with Az:=ps }.cells a vc vo v vf:=by
 unfold Hp.cells;cases H.use<;>rfl
theorem AE.EM (h:AE w o l H vc vo vw vf f){v:Ac}{ps:List Nat}(hr:Row w o (l.id,6) 3 1 v ps.length (ps.map nv)):AE (w.setCell ⟨l.h,15,none⟩ v) o l { H with final:=ps } vc vo vw v f:=by
 have hs:=(Stp.refl (fun t=>t=(l.id,0)) o w).setCell (a:=⟨l.h,15,none⟩) h.oh v
 have hn:∀ j,j≠0->¬(l.id,j)=(l.id,0):=fun j hj e=>hj (by simpa using e)
 have hb:=h.hb.set 15 v;rw[WL _ _ _ _ _ _ _ ps]at hb;exact⟨hb,h.B5.Ao hs (by rw[h.oa];exact hn _ (by omega)) (by rw[h.ow];exact hn _ (by omega)),h.rc.Ao hs (hn _ (by split<;>omega)),h.ro.Ao hs (hn _ (by split<;>omega)),h.rw.Ao hs (hn _ (by omega)),hr.Ao hs (hn _ (by omega)),h.oh,h.oa,h.ow,h.E3,h.B8⟩
theorem AE.Ku (h:AE w o l H vc vo vw vf f){v:Ac}{ps:List Nat}(hr:Row w o (l.id,5) 3 1 v ps.length (ps.map nv)):AE (w.setCell ⟨l.h,14,none⟩ v) o l { H with Az:=ps } vc vo v vf f:=by
 have hs:=(Stp.refl (fun t=>t=(l.id,0)) o w).setCell (a:=⟨l.h,14,none⟩) h.oh v
 have hn:∀ j,j≠0->¬(l.id,j)=(l.id,0):=fun j hj e=>hj (by simpa using e)
 have hb:=h.hb.set 14 v;rw[WN _ _ _ _ _ _ _ ps]at hb;exact⟨hb,h.B5.Ao hs (by rw[h.oa];exact hn _ (by omega)) (by rw[h.ow];exact hn _ (by omega)),h.rc.Ao hs (hn _ (by split<;>omega)),h.ro.Ao hs (hn _ (by split<;>omega)),hr.Ao hs (hn _ (by omega)),h.rf.Ao hs (hn _ (by omega)),h.oh,h.oa,h.ow,h.E3,h.B8⟩
theorem AE.Kl (h:AE w o l H vc vo vw vf f):w.cell? ⟨l.h,14,none⟩=some vw:=by rw[h.hb.cell];unfold Hp.cells;split<;>rfl
theorem AE.FX (h:AE w o l H vc vo vw vf f):w.cell? ⟨l.h,15,none⟩=some vf:=by rw[h.hb.cell];unfold Hp.cells;split<;>rfl
def QH (w:Aa)(o:Own)(l:Ba)(H':Hp)(ps:List Nat)(vo vw:Ac)(e:Ending)(w':Aa):Prop:=
 ∃ v vc' vf' f' o',e=O v/\AE w' o' l H' vc' vo vw vf' f'/\Stp (zd l) o o' w w'/\Row w' o' (Di l) 3 1 v ps.length (ps.map nv)
theorem Wh (h:AE w o l H vc vo vw vf f)(hw:H.wf)(hm:H.AF=true) :
  Ab Tryz.prog 189 #[Ag (some ⟨l.h,0,none⟩)] w (QH w o l H.A1.1 H.A1.2 vo vw):=by
 have e0:H.A1=Hp.As { H with final:=H.stay H.final } (H.Cc H.final):=by unfold Hp.A1;rw[hm];simp
 rw[e0];have hsl:=kr H H.final;have hfl:=hw.fl;have hse:=hw.ok.Bt;have hw1:Hp.wf { H with final:=H.stay H.final }:=sj hw (by omega)
 have HM:=wj h;rw[hm]at HM;replace HM:=Qa HM;have HS:=Qa (ni h hw.ok H.final (by omega) (by exact h.rf.ints))
 have HI:=Qa h;have FX:=h.FX;generalize hps:H.Cc H.final=ps at *;generalize hst:H.stay H.final=st at *;have hn40:ps.length<=1099511627776:=by omega
 obtain⟨H1,hH1⟩:∃ H1:Hp,H1={ H with final:=st }:=⟨_,rfl⟩;have HH1:=Qa hH1;rw[<-hH1]at hw1 ⊢;have HW:=Qa hw1;obtain⟨n,hn⟩:∃ n,n=ps.length:=⟨_,rfl⟩;have HN:=Qa hn;rw[<-hn]at hn40;have hnI:(n:Int)<=1099511627776:=by omega
 clear h hw hm hsl hfl hse hw1 hps hst hH1 hn e0;go_enter Tryz.func189,Tryz.ntmps189;go_wp2_with fail;refine HM.out.mono ?_
 rintro e w1 ⟨rfl,rfl⟩
 go_wp2_with fail;refine HS.out.mono ?_
 rintro e w1 ⟨v1,v2,o',rfl,hr1,hr2,hs1⟩
 have hb1:=T2.below hs1;have hge:=Row.LH hs1 hr2;have hr1:=hr1.Nj hs1 o (l.id,6) (Di l);have hr2:=hr2.Sx hs1 o (l.id,6) (Di l);obtain⟨o1,ho1⟩:∃ o1,o1=mix o o' w.heap.size (l.id,6) (Di l):=⟨_,rfl⟩;rw[<-ho1]at hr1 hr2;have ht1:∀ b,b<w.heap.size->o1 b=o b:=fun b hb=>by rw[ho1];exact Sv hb
 have hI1:AE w1 o1 l H vc vo vw vf f:=(HI.out.retag ht1).below hb1;have hS1:Stp (zd l) o o1 w w1:=⟨hb1.os,hb1.tape,hb1.output,hb1.size,ht1,fun b hb _=>hb1.block b hb⟩
 clear ho1 hs1 ht1 FX;have FX:=hI1.FX;have z15:=hI1.hb.free 15;have s15:=hI1.hb.lt;obtain⟨pa,cp,rfl⟩:=hr2.AY;obtain⟨pa1,cp1,rfl⟩:=hr1.AY;go_upto_region 5 with fail;obtain⟨W,hW⟩:∃ W,W=w1.setCell ⟨l.h,15,none⟩ (.slice pa1 st.length cp1):=⟨_,rfl⟩;have hIW:AE W o1 l H1 vc vo vw (.slice pa1 st.length cp1) f:=by rw[hW,HH1.out];exact hI1.EM hr1
 have hs0:Stp (fun t=>t=(l.id,0)) o1 o1 w1 W:=by rw[hW];exact (Stp.refl _ o1 w1).setCell hI1.oh _
 have hSW:Stp (zd l) o o1 w W:=hS1.trans (hs0.mono (by rintro _ rfl;exact⟨rfl,by simp⟩))
 have hrW:=hr2.Ao hs0 (by simp)
 rw[<-hW];rw[<-HN.out]at hrW hge ⊢;have hrW':Row W o1 (Di l) 3 1 (.slice pa n cp) n (((H1.As (ps.take 0)).2++ps.drop 0).map nv):=by simpa [Hp.As] using hrW
 have HGe:=Qa hge;clear hW hs0 hr1 hr2 hI1 hS1 hb1 FX z15 s15 hrW hge;go_wp2_with fail;go_loopw [25] (fun ix wr=>∃ (k:Nat)(vc':Ac)(f':Nat->Nat)(o':Own),ix=I Z k/\k<=n/\AE wr o' l (H1.As (ps.take k)).1 vc' vo vw (.slice pa1 st.length cp1) f'/\Stp (zd l) o o' w wr/\Row wr o' (Di l) 3 1 (.slice pa n cp) n (((H1.As (ps.take k)).2++ps.drop k).map nv)) (fun ix _=>n-(intOf ix).toNat)
 case atStart=>exact⟨0,vc,f,o1,rfl,by omega,hIW,hSW,hrW'⟩
 case round =>
  obtain⟨k,vc',f',o',rfl,hkn,hI,hS,hR⟩:=hrel;clear hIW hSW hrW';by_cases hlt:k<n
  ·have hkI:(k:Int)<(n:Int):=by omega
   have hk8:(k:Int)<1099511627776:=by omega
   obtain⟨x,hx⟩:∃ x,ps[k]?=some x:=⟨_,Qb (by rw[<-HN.out];omega)⟩
   have htk:=jj hx;have FL:ps.drop k=x::ps.drop (k+1):=by
    obtain⟨h1,h2⟩:=(Qc.1 hx);rw[<-h2];exact List.drop_eq_getElem_cons h1
   have hwk:=(Hp.Cb (ps.take k) HW.out).ok;have hsn:=yz (ps.take k) x H1;rw[<-htk]at hsn;have hlen:(H1.As (ps.take k)).2.length=k:=by rw[kp,Qp,<-HN.out];omega
   have HSn:=Qa hsn;rw[FL]at hR;generalize H1.As (ps.take k)=r at *;obtain⟨Hk,lk'⟩:=r;simp only at hI hR hwk hlen HSn;rcases hR.shape with ⟨_,h0⟩|⟨g,c,e1,hnc,hcm⟩
   ·omega
   ·injection e1 with e1 _ e3
    subst e1 e3;have CY:(lk'++x::ps.drop (k+1)).set k (Hk.AA x).2=(lk'++[(Hk.AA x).2])++ps.drop (k+1):=by
     have:=set_mid lk' (ps.drop (k+1)) x (Hk.AA x).2;rwa [hlen]at this
    have cx:wr.cell? ⟨g,k,none⟩=some (I Z x):=by
     refine hR.cells k _ ?_;rw[Qj,Ql (by omega),hlen];simp[nv]
    have HMv:=Qa (dr hI hwk x);have HSet:=Qa CY;have HSS:=Qa hS;have HR:=Qa hR;have hgl:=hR.blt;clear hsn FL htk CY hwk hlen hx hI hS hR;go_wp2_with fail;refine HMv.out.mono ?_
    rintro e w7 ⟨rfl,vc7,f7,o7,hI7,hS7⟩
    have hR7:=HR.out.Ao hS7 (Pe l);have z7:=hR7.free k;have s7:=hR7.blt;obtain⟨u7,c7⟩:∃ u,w7.cell? ⟨g,k,none⟩=some u:=by
     have h1:k<(List.map nv (lk'++x::ps.drop (k+1))).length:=by rw[hR7.len];omega
     exact⟨_,hR7.cells k _ (Qb h1)⟩
    have hfin:=Qa (show ∃ (vc':Ac)(f':Nat->Nat)(o':Own),AE (w7.setCell ⟨g,k,none⟩ (I Z (Hk.AA x).2)) o' l (H1.As (ps.take (k+1))).1 vc' vo vw (.slice pa1 st.length cp1) f'/\Stp (zd l) o o' w (w7.setCell ⟨g,k,none⟩ (I Z (Hk.AA x).2))/\Row (w7.setCell ⟨g,k,none⟩ (I Z (Hk.AA x).2)) o' (Di l) 3 1 (Ah (some ⟨g,0,none⟩) n cp) n (((H1.As (ps.take (k+1))).2++ps.drop (k+1)).map nv) from by
     rw[HSn.out];refine⟨vc7,f7,o7,hI7.boxed hR7.El _,?_,?_⟩
     ·exact (HSS.out.trans hS7).setCell_new (HGe.out g rfl) _
     ·have:=hR7.Kz k (I Z (Hk.AA x).2)
      rw[show (Value.int IntKind.i64 ((Hk.AA x).2:Nat))=nv (Hk.AA x).2 from rfl,<-List.map_set,HSet.out]at this;exact this)
    clear hR7 hS7 hI7;go_wp2_with fail;obtain⟨vc8,f8,o8,g1,g2,g3⟩:=hfin.out;go_roundw
    case rel=>exact⟨k+1,vc8,f8,o8,by simp,by omega,g1,g2,g3⟩
    case measure=>simp[intOf];omega
  ·obtain rfl:k=n:=by omega
   have hfin:=Qa (show QH w o l (H1.As ps).1 (H1.As ps).2 vo vw (O (.slice pa k cp)) wr from by
    rw[HN.out,List.take_length]at hI;rw[HN.out,List.take_length,List.drop_length,List.append_nil,<-HN.out]at hR;exact⟨_,vc',_,f',o',rfl,hI,hS,by rw[kp,<-HN.out];exact hR⟩)
   clear hI hS hR;go_wp2_with fail;go_ret;exact hfin.out
theorem qi8 (h:AE w o l H vc vo vw vf f)(hw:H.wf) :
  Ab Tryz.prog 189 #[Ag (some ⟨l.h,0,none⟩)] w (QH w o l H.A1.1 H.A1.2 vo vw):=by
 cases hm:H.AF with
 | true=>exact Wh h hw hm
 | false =>
  have e0:H.A1=(H,[]):=by unfold Hp.A1;rw[hm];simp
  rw[e0];have HM:=wj h;rw[hm]at HM;replace HM:=Qa HM;have hfin:=Qa (show QH w o l H [] vo vw (O (Ah none 0 0)) w from ⟨_,vc,vf,f,o,rfl,h,Stp.refl _ _ _,Row.nil _ _ _ _ _⟩);clear h hw hm e0;go_enter Tryz.func189,Tryz.ntmps189;go_wp2_with fail;refine HM.out.mono ?_
  rintro e w1 ⟨rfl,rfl⟩
  go_wp2_with fail;go_ret;exact hfin.out
end
def solo (v:Ac):Own:=fun b=>if v.ownBlock=some b then (1,0) else (0,0)
theorem Row.solo {w:Aa}{o:Own}{t:Tag}{e:TypeId}{size n:Nat}{v:Ac}{xs:List Ac}(h:Row w o t e size v n xs):Row w (solo v) (1,0) e size v n xs:=
 ⟨h.own,fun k hk=>by unfold Go.Proofs.YteehgedabdchcaaGreat.solo;rw[if_pos hk]⟩
theorem Row.M1 {w wr w8:Aa}{o o':Own}{T:Tag->Prop}{tg:Tag}{e:TypeId}{size n n':Nat}{v v':Ac}{xs xs':List Ac}(hr:Row wr o' tg e size v n xs)
  (hown:Row w8 (ext (Go.Proofs.YteehgedabdchcaaGreat.solo v) wr.heap.size (1,0)) (1,0) e size v' n' xs')(hst:Stp (fun t=>t=(1,0)) (Go.Proofs.YteehgedabdchcaaGreat.solo v) (ext (Go.Proofs.YteehgedabdchcaaGreat.solo v) wr.heap.size (1,0)) wr w8)
  (hS:Stp T o o' w wr)(hge:∀ b,v.ownBlock=some b->w.heap.size<=b) :
  Row w8 (ext o' wr.heap.size tg) tg e size v' n' xs'/\Stp (fun t=>t=tg) o' (ext o' wr.heap.size tg) wr w8/\Stp T o (ext o' wr.heap.size tg) w w8/\∀ b,v'.ownBlock=some b->w.heap.size<=b:=by
 have h0:∀ k,v'.ownBlock=some k->k<wr.heap.size->v.ownBlock=some k:=fun k hk hlt=>by
  have h1:=hown.tag k hk;rw[qj hlt]at h1;unfold Go.Proofs.YteehgedabdchcaaGreat.solo at h1;split at h1
  ·assumption
  ·simp at h1
 have hbl:∀ b,b<wr.heap.size->v.ownBlock≠some b->w8.heap[b]?=wr.heap[b]?:=fun b hb hn=>hst.block b hb (by unfold Go.Proofs.YteehgedabdchcaaGreat.solo;rw[if_neg hn];simp)
 refine⟨⟨hown.own,fun k hk=>?_⟩,⟨hst.os,hst.tape,hst.output,hst.size,fun b hb=>qj hb,fun b hb hn=>hbl b hb fun h=>hn (hr.tag b h)⟩,⟨hst.os.trans hS.os,hst.tape.trans hS.tape,hst.output.trans hS.output,Qo hS.size hst.size,fun b hb=>(qj (Qn hb hS.size)).trans (hS.tags b hb),fun b hb hn=>?_⟩,fun b hb=>?_⟩
 ·rcases Nat.lt_or_ge k wr.heap.size with h|h
  ·rw[qj h];exact hr.tag k (h0 k hk h)
  ·exact qp h
 ·refine (hbl b (Qn hb hS.size) fun h=>?_).trans (hS.block b hb hn)
  have:=hge b h;omega
 ·rcases Nat.lt_or_ge b wr.heap.size with h|h
  ·exact hge b (h0 b hb h)
  ·exact Qo hS.size h
theorem Ul:∀ (l:List Nat)(p:Nat)(H:Hp),H.AP (l++[p])=(((H.AP l).1.drop1 p).1,(H.AP l).2++((H.AP l).1.drop1 p).2)
 | [],p,H=>by show ((H.drop1 p).1,(H.drop1 p).2++[])=((H.drop1 p).1,[]++(H.drop1 p).2);simp
 | q::l,p,H=>by
  have:=Ul l p (H.drop1 q).1;show ((((H.drop1 q).1.AP (l++[p])).1,(H.drop1 q).2++((H.drop1 q).1.AP (l++[p])).2):Hp×List Nat)=(((((H.drop1 q).1.AP l).1.drop1 p)).1,((H.drop1 q).2++((H.drop1 q).1.AP l).2)++(((H.drop1 q).1.AP l).1.drop1 p).2);rw[this,List.append_assoc]
theorem YE (H:Hp)(p:Nat):(H.drop1 p).2.length<=1:=by
 unfold Hp.drop1
 (repeat' split)<;>simp
theorem du:∀ (l:List Nat)(H:Hp),(H.AP l).2.length<=l.length
 | [],_=>Qk _
 | p::l,H=>by
  have h1:=YE H p;have h2:=du l (H.drop1 p).1;show ((H.drop1 p).2++((H.drop1 p).1.AP l).2).length<=l.length+1;rw[Qd];omega
section
variable {w w' : Aa} {o : Own} {l : Ba} {H : Hp} {vc vo vw vf : Ac} {f : Nat -> Nat}
theorem AE.Ra {o':Own}(h:AE w o l H vc vo vw vf f)(hs:Stp (fun t=>t=Di l) o o' w w'):AE w' o' l H vc vo vw vf f:=by
 have hn:∀ j,¬(l.id,j)=Di l:=fun j=>by simp
 exact⟨h.hb.Ao hs (by rw[h.oh];exact hn _),h.B5.Ao hs (by rw[h.oa];exact hn _) (by rw[h.ow];exact hn _),h.rc.Ao hs (hn _),h.ro.Ao hs (hn _),h.rw.Ao hs (hn _),h.rf.Ao hs (hn _),
  (hs.tags _ h.hb.lt).trans h.oh,(hs.tags _ h.B5.B2.lt).trans h.oa,(hs.tags _ h.B5.lt).trans h.ow,h.E3,h.B8⟩
def QA (w:Aa)(o:Own)(l:Ba)(H':Hp)(ps:List Nat)(vo vw vf:Ac)(v:Ac)(w':Aa):Prop:=
 ∃ vc' f' o',AE w' o' l H' vc' vo vw vf f'/\Stp (zd l) o o' w w'/\Row w' o' (Di l) 3 1 v ps.length (ps.map nv)/\∀ b,v.ownBlock=some b->w.heap.size<=b
end
section
variable {w w' : Aa} {o : Own} {l : Ba} {H : Hp} {vc vo vw vf : Ac} {f : Nat -> Nat}
theorem AE.Gz (h:AE w o l H vc vo vw vf f){w':Aa}(hb:Am w' l.h (H.rest.cells l.a vc (Ah none 0 0) vw vf) 185)(hs:Stp (fun t=>t=(l.id,0)) o o w w'):AE w' o l H.rest vc (Ah none 0 0) vw vf f:=by
 have hn:∀ j,j≠0->¬(l.id,j)=(l.id,0):=fun j hj e=>hj (by simpa using e)
 exact⟨hb,h.B5.Ao hs (by rw[h.oa];exact hn _ (by omega)) (by rw[h.ow];exact hn _ (by omega)),h.rc.Ao hs (hn _ (by split<;>omega)),Row.nil _ _ _ _ _,h.rw.Ao hs (hn _ (by omega)),h.rf.Ao hs (hn _ (by omega)),h.oh,h.oa,h.ow,h.E3,fun x hx=>(by cases hx)⟩
def g6 (w:Aa)(o:Own)(l:Ba)(H':Hp)(ps:List Nat)(ok:Bool)(e:Ending)(w':Aa):Prop:=
 ∃ v vc' vo' vw' vf' f' o',e=O (Aj #[v,.bool ok])/\AE w' o' l H' vc' vo' vw' vf' f'/\Stp (zd l) o o' w w'/\Row w' o' (Di l) 3 1 v ps.length (ps.map nv)
theorem L2 (h:AE w o l H vc vo vw vf f) (hw:H.wf) (hm:H.AF=true) (hsc:H.scan=H.top) :
  Ab Tryz.prog 242 #[Ag (some ⟨l.h,0,none⟩)] w (g6 w o l H.drop.1 H.drop.2.1 H.drop.2.2):=by
 have e0:H.drop=((H.settled.AP H.settled.Az).1.rest,(H.settled.AP H.settled.Az).2,true):=by unfold Hp.drop;rw[if_neg (by rw[hm,hsc];simp)]
 rw[e0];clear e0;have hsl:=kr H H.Az;have hsl2:=kr H H.final;have hfl:=hw.fl;have hwl:=hw.wl;have hse:=hw.ok.Bt;have hk:=hw.ok;have hw2:=Hp.Dr hw;have HM:=wj h;rw[hm]at HM;replace HM:=Qa HM;have HD:=y9 h;rw[decide_eq_true hsc]at HD;replace HD:=Qa HD;have HI:=Qa h;have HS1:=Qa (fun (W:Aa) (o1:Own) (h1:AE W o1 l H vc vo vw vf f)=>ni h1 hk H.Az (by omega) h1.rw.ints)
 have HS2:=Qa (fun (W:Aa) (o1:Own) (vw1:Ac) (h1:AE W o1 l { H with Az:=H.stay H.Az } vc vo vw1 vf f)=>ni h1 (H:={ H with Az:=H.stay H.Az }) ⟨hk.sz,hk.cl,hk.ck,hk.ol,hk.ok,hk.ot,hk.still,hk.FP,hk.room,hk.Bt,hk.Ci,hk.gone⟩ H.final (by omega) h1.rf.ints)
 have hstay:∀ q,({ H with Az:=H.stay H.Az }:Hp).stay q=H.stay q:=fun q=>rfl
 have hgone:∀ q,({ H with Az:=H.stay H.Az }:Hp).Cc q=H.Cc q:=fun q=>rfl
 simp only[hstay,hgone]at HS2;have HWk:=Qa (fun p (hp:p ∈ H.stay H.Az)=>SE hw hp)
 obtain⟨st,hst⟩:∃ st,st=H.stay H.Az:=⟨_,rfl⟩;obtain⟨sf,hsf⟩:∃ sf,sf=H.stay H.final:=⟨_,rfl⟩;obtain⟨H2,hH2⟩:∃ H2:Hp,H2=H.settled:=⟨_,rfl⟩;have HH2:=Qa (show H2={ H with Az:=st,final:=sf } by rw[hH2,hst,hsf];rfl)
 have e1:H2.Az=st:=by rw[hH2,hst];rfl
 have e2:H2.cur=H.cur:=by rw[hH2];rfl
 rw[<-hH2]at hw2 ⊢;rw[e1];rw[<-hst]at HS1 HS2 HWk hsl;rw[<-hsf]at HS2 hsl2;rw[<-e2]at HWk;have HW:=Qa hw2;have hn40:st.length<=1099511627776:=by omega
 obtain⟨n,hn⟩:∃ n,n=st.length:=⟨_,rfl⟩;have HN:=Qa hn;rw[<-hn]at hn40;have hnI:(n:Int)<=1099511627776:=by omega
 obtain⟨iI,hi,hsI,hyI,hzI⟩:=zi;have hu64:=Tryz.underlying25;clear h hw hm hsc hsl hsl2 hfl hwl hse hk hw2 hstay hgone hst hsf hH2 hn e1 e2;go_enter Tryz.func242,Tryz.ntmps242;go_wp2_with fail;refine HM.out.mono ?_
 rintro e w1 ⟨rfl,rfl⟩
 go_wp2_with fail;refine HD.out.mono ?_
 rintro e w1 ⟨rfl,hb1⟩
 have hI0:=HI.out.below hb1;have Kl:=hI0.Kl;have HI0:=Qa hI0;clear hI0;go_wp2_with fail;refine (HS1.out _ _ HI0.out).mono ?_
 rintro e w2 ⟨v1,v2,o',rfl,hr1,_,hs1⟩
 have hb2:=T2.below hs1;have hr1:=hr1.Nj hs1 o (l.id,5) (Di l);obtain⟨o1,ho1⟩:∃ o1,o1=mix o o' w1.heap.size (l.id,5) (Di l):=⟨_,rfl⟩;rw[<-ho1]at hr1;have ht1:∀ b,b<w1.heap.size->o1 b=o b:=fun b hb=>by rw[ho1];exact Sv hb
 have hI1:AE w2 o1 l H vc vo vw vf f:=(HI0.out.retag ht1).below hb2;have hS1:Stp (zd l) o o1 w w2:=(Stp.of_below hb1).trans ⟨hb2.os,hb2.tape,hb2.output,hb2.size,ht1,fun b hb _=>hb2.block b hb⟩
 clear ho1 hs1 ht1 Kl hb2;have Kl:=hI1.Kl;have z14:=hI1.hb.free 14;have s14:=hI1.hb.lt;obtain⟨pa,cp,rfl⟩:=hr1.AY;rw[<-HN.out]at hr1 ⊢;go_upto_region 4 with fail;obtain⟨W,hW⟩:∃ W,W=w2.setCell ⟨l.h,14,none⟩ (.slice pa n cp):=⟨_,rfl⟩;rw[HN.out]at hr1;have hIW:AE W o1 l { H with Az:=st } vc vo (.slice pa n cp) vf f:=by rw[hW];rw[<-HN.out]at hr1;exact hI1.Ku (by rw[<-HN.out];exact hr1)
 have hSW:Stp (zd l) o o1 w W:=by rw[hW];exact hS1.setCell (by show zd l (o1 l.h);rw[hI1.oh];exact⟨rfl,by simp⟩) _
 rw[<-hW];clear hW hr1 hI1 hS1 Kl z14 s14 hb1;have FX:=hIW.FX;have HIW:=Qa hIW;clear hIW;go_wp2_with fail;refine (HS2.out _ _ _ HIW.out).mono ?_
 rintro e w3 ⟨v3,v4,o'',rfl,hr3,_,hs3⟩
 have hb3:=T2.below hs3;have hr3:=hr3.Nj hs3 o1 (l.id,6) (Di l);obtain⟨o3,ho3⟩:∃ o3,o3=mix o1 o'' W.heap.size (l.id,6) (Di l):=⟨_,rfl⟩;rw[<-ho3]at hr3;have ht3:∀ b,b<W.heap.size->o3 b=o1 b:=fun b hb=>by rw[ho3];exact Sv hb
 have hI3:AE w3 o3 l { H with Az:=st } vc vo (.slice pa n cp) vf f:=(HIW.out.retag ht3).below hb3;have hS3:Stp (zd l) o o3 w w3:=hSW.trans ⟨hb3.os,hb3.tape,hb3.output,hb3.size,ht3,fun b hb _=>hb3.block b hb⟩
 clear ho3 hs3 ht3 FX hb3 hSW;have FX:=hI3.FX;have z15:=hI3.hb.free 15;have s15:=hI3.hb.lt;obtain⟨pa3,cp3,rfl⟩:=hr3.AY;obtain⟨v3,hv3⟩:∃ v3,v3=Value.slice pa3 sf.length cp3:=⟨_,rfl⟩;have HV3:=Qa hv3;go_upto_region 5 with fail;obtain⟨W4,hW4⟩:∃ W,W=w3.setCell ⟨l.h,15,none⟩ v3:=⟨_,rfl⟩;have hI4:AE W4 o3 l H2 vc vo (.slice pa n cp) v3 f:=by rw[hW4,HH2.out,HV3.out];exact hI3.EM hr3
 have hS4:Stp (zd l) o o3 w W4:=by rw[hW4];exact hS3.setCell (by show zd l (o3 l.h);rw[hI3.oh];exact⟨rfl,by simp⟩) _
 rw[<-hv3,<-hW4];clear hW4 hv3 hr3 hI3 hS3 FX z15 s15;have Kl:=hI4.Kl;have hD4:QA w o l (H2.AP (st.take 0)).1 (H2.AP (st.take 0)).2 vo (.slice pa n cp) v3 (Ah none 0 0) W4:=⟨vc,f,o3,hI4,hS4,Row.nil _ _ _ _ _,fun b hb=>by simp[Value.ownBlock]at hb⟩
 clear hI4 hS4;go_wp2_with fail;clear Kl;go_loopw [4,51] (fun v ix wr=>∃ k:Nat,ix=I Z k/\k<=n/\QA w o l (H2.AP (st.take k)).1 (H2.AP (st.take k)).2 vo (.slice pa n cp) v3 v wr) (fun _ ix _=>n-(intOf ix).toNat)
 case atStart=>exact⟨0,rfl,by omega,hD4⟩
 case round =>
  obtain⟨k,rfl,hkn,vc',f',o',hI,hS,hR,hG⟩:=hrel;clear hD4;by_cases hlt:k<n
  ·have hkI:(k:Int)<(n:Int):=by omega
   have hk40:(k:Int)<1099511627776:=by omega
   obtain⟨x,hx⟩:∃ x,st[k]?=some x:=⟨_,Qb (by rw[<-HN.out];omega)⟩
   have htk:=jj hx;have hwk:=Hp.Dw (st.take k) HW.out;have hsn:=Ul (st.take k) x H2;rw[<-htk]at hsn;have hll:=du (st.take k) H2;obtain⟨ob,hob,hp1⟩:=fv (st.take k) (HWk.out x (Qe hx));have hsw:(H2.AP (st.take k)).1.Az=st:=by rw[(ce _ _).2.1,HH2.out]
   have htl:(st.take k).length=k:=by rw[Qp,<-HN.out];omega
   have HSn:=Qa hsn;generalize H2.AP (st.take k)=r at *;obtain⟨Hk,ls⟩:=r;simp only at hI hR hwk hll hob HSn hsw;have hls40:ls.length<=1099511627776:=by omega
   have HL:=Qa (Hr hls40);have hrw:=hI.rw;rw[hsw,<-HN.out]at hrw;rcases hrw.shape with ⟨_,h0⟩|⟨g,c,e1,hnc,hcm⟩
   ·omega
   ·injection e1 with e1 _ e3
    subst e1 e3;have cx:wr.cell? ⟨g,k,none⟩=some (I Z x):=hrw.cells k _ (by rw[Qj,hx];rfl)
    have ho:=hwk.EJ hob;obtain⟨y,hy⟩:∃ y,ob.AL[0]?=some y:=⟨_,Qb (by rw[ho.lp];omega)⟩
    obtain⟨ha,_,hl,_⟩:=hI.at_ hwk.ok hob;have HPt:=Qa (rv hI.B5 ha ho hl 0 y hy x 0 rfl rfl);have HC0:=Qa (fun w4 (hb:Ae wr.heap.size wr w4)=>(hI.below hb).c0)
    have HTh:=fun w4 (hb:Ae wr.heap.size wr w4)=>di (hI.below hb) hwk.ok y
    have c0:=hI.c0;obtain⟨pl,cl,rfl⟩:=hR.AY;have hSn':Hk.drop1 x=match Bj Hk.old y with|none=>(Hk,[])|some (_,some q)=>({ Hk with cur:=up Hk.cur x (ob.A4 0 q) },[])|some (_,none)=>({ Hk with cur:=up Hk.cur x (ob.A4 0 0) },[ob.Ax]):=by
     unfold Hp.drop1;rw[hob];simp only;rw[hy];rfl
    have HII:=Qa hI;have HSS:=Qa hS;have HRR:=Qa hR;have HGG:=Qa hG;have HWK:=Qa hwk;have HOB:=Qa hob;have HSz:=Qa (show 0<ob.AN.p from hp1)
    cases hlo:Bj Hk.old y with
    | none =>
     rw[hlo]at hSn' HTh;have HTh:=Qa HTh;have HSn2:=Qa hSn';clear hsn htk hwk hll hob hp1 hsw htl hI hS hR hG hrw ho hy ha hl hx hSn' hlo hls40;go_wp2_with fail;refine HPt.out.mono ?_
     rintro e w5 ⟨rfl,hb5⟩
     go_wp2_with fail;refine (HTh.out _ hb5).mono ?_
     rintro e w6 ⟨rfl,hb6⟩
     have hb:=qd hb5 hb6;go_wp2_with fail;go_roundw
     case rel=>exact⟨k+1,by simp,by omega,by rw[HSn.out,HSn2.out];simp only[List.append_nil];exact⟨vc',f',o',HII.out.below hb,HSS.out.trans (Stp.of_below hb),HRR.out.below hb,HGG.out⟩⟩
     case measure=>simp[intOf];omega
    | some z =>
     obtain⟨oo,gq⟩:=z;rw[hlo]at hSn' HTh;have HTh:=Qa HTh;have HSn2:=Qa hSn'
     cases gq with
     | some q =>
      have hq:=hwk.ok.gone _ (jf hlo) q rfl;have HAt:=Qa (fun w4 (hb:Ae wr.heap.size wr w4)=>UM (hI.below hb) hwk.ok hlo)
      have HSP:=Qa (fun w4 (hb:Ae wr.heap.size wr w4)=>xq (hI.B5.below hb) ha ho hl 0 q hp1 hq.2 x 0 q rfl rfl rfl)
      have HEn:=Qa (fun w4 w5 (hb:Ae wr.heap.size wr w4) hT=>(hI.below hb).D7 (w':=w5) hwk.ok hob (k:=3+0) (by unfold Ob.size;omega) hT (by rw[show x+(3+0)=x+3+0 from by omega];exact ha.A4 ho 0 q hp1))
      rw[show x+(3+0)=x+3+0 from by omega]at HEn
      clear hsn htk hwk hll hob hp1 hsw htl hI hS hR hG hrw ho hy ha hl hx hSn' hlo hls40 hq;go_wp2_with fail;refine HPt.out.mono ?_
      rintro e w5 ⟨rfl,hb5⟩
      go_wp2_with fail;refine (HTh.out _ hb5).mono ?_
      rintro e w6 ⟨rfl,hb6⟩
      have hb:=qd hb5 hb6;clear c0;have c0:=HC0.out _ hb;go_wp2_with fail;refine (HAt.out _ hb).mono ?_
      rintro e w7 ⟨rfl,rfl⟩
      go_wp2_with fail;refine (HSP.out _ hb).mono ?_
      rintro e w8 ⟨rfl,hT8⟩
      have hfin:=Qa (show QA w o l (H2.AP (st.take (k+1))).1 (H2.AP (st.take (k+1))).2 vo (Ah (some ⟨g,0,none⟩) n cp) v3 (.slice pl ls.length cl) w8 from by
       rw[HSn.out,HSn2.out];simp only[List.append_nil];obtain⟨vc8,f8,o8,h8,s8⟩:=HEn.out _ _ hb hT8;refine⟨vc8,f8,o8,h8,(HSS.out.trans (Stp.of_below hb)).trans s8,(HRR.out.below hb).Ao s8 (Pe l),HGG.out⟩)
      clear hT8 c0;go_wp2_with fail;go_roundw
      case rel=>exact⟨k+1,by simp,by omega,hfin.out⟩
      case measure=>simp[intOf];omega
     | none =>
      have HAt:=Qa (fun w4 (hb:Ae wr.heap.size wr w4)=>Tv (hI.below hb) hwk.ok hlo)
      have HSP:=Qa (fun w4 (hb:Ae wr.heap.size wr w4)=>xq (hI.B5.below hb) ha ho hl 0 0 hp1 (by omega) x 0 0 rfl rfl rfl)
      have HEn:=Qa (fun w4 w5 (hb:Ae wr.heap.size wr w4) hT=>(hI.below hb).D7 (w':=w5) hwk.ok hob (k:=3+0) (by unfold Ob.size;omega) hT (by rw[show x+(3+0)=x+3+0 from by omega];exact ha.A4 ho 0 0 hp1))
      rw[show x+(3+0)=x+3+0 from by omega]at HEn
      have hlk2:lk (up Hk.cur x (ob.A4 0 0)) x=some (ob.A4 0 0):=by rw[NA,if_pos rfl,hob];rfl
      have hw2:=sy hwk hob (ob':=ob.A4 0 0) (Ob.Ck ho 0 0 (by omega)) rfl
      have HSr:=Qa (fun w4 vc4 f4 o4 (h4:AE w4 o4 l { Hk with cur:=up Hk.cur x (ob.A4 0 0) } vc4 vo (Ah (some ⟨g,0,none⟩) n cp) v3 f4)=>show Ab Tryz.prog 131 #[Ag (some ⟨l.a,0,none⟩),I Z x] w4 fun e w'=>e=O (Aj #[I Z ob.Ax,I Z 0])/\Ae w4.heap.size w4 w' from by
       obtain⟨ha4,ho4,hl4,_⟩:=h4.at_ hw2.ok hlk2;exact fy h4.B5 ha4 ho4 hl4 x rfl)
      clear hsn htk hwk hll hob hp1 hsw htl hI hS hR hG hrw ho hy ha hl hx hSn' hlo hls40 hlk2 hw2;go_wp2_with fail;refine HPt.out.mono ?_
      rintro e w5 ⟨rfl,hb5⟩
      go_wp2_with fail;refine (HTh.out _ hb5).mono ?_
      rintro e w6 ⟨rfl,hb6⟩
      have hb:=qd hb5 hb6;clear c0;have c0:=HC0.out _ hb;go_wp2_with fail;refine (HAt.out _ hb).mono ?_
      rintro e w7 ⟨rfl,rfl⟩
      go_wp2_with fail;refine (HSP.out _ hb).mono ?_
      rintro e w8 ⟨rfl,hT8⟩
      obtain⟨vc8,f8,o8,h8,s8⟩:=HEn.out _ _ hb hT8;have H8:=Qa h8;have S8:=Qa ((HSS.out.trans (Stp.of_below hb)).trans s8);have R8:=Qa ((HRR.out.below hb).Ao s8 (Pe l));clear hT8 c0 s8;have c0:=h8.c0;clear h8;go_wp2_with fail;refine (HSr.out _ _ _ _ H8.out).mono ?_
      rintro e w9 ⟨rfl,hb9⟩
      clear c0;have R9:=Qa (R8.out.below hb9).solo;go_wp2_with (first|(at_builtin;refine qf _ rfl _ _ _ rfl 3 iI _ 1 8 hu64 hi hzI hsI hyI rfl (by decide) (solo (.slice pl ls.length cl)) (1,0) _ _ _ rfl (Row.below R9.out (qa (qc w9) _)) ⟨w9.heap.size,0,none⟩ 1 1 [I Z ob.Ax] rfl rfl (qx (Am.new w9 _ _)) zw HL.out.1 HL.out.2 ?_;intro v' w10 hown hst;obtain⟨pa8,cp8,rfl⟩:=hown.AY)|fail)
      have hfin:=Qa (show QA w o l (H2.AP (st.take (k+1))).1 (H2.AP (st.take (k+1))).2 vo (Ah (some ⟨g,0,none⟩) n cp) v3 (.slice pa8 (ls.length+1) cp8) w10 from by
       rw[HSn.out,HSn2.out];have hB:=qd hb9 (qa (qc w9) (.cells #[I Z ob.Ax] 3));obtain⟨q1,q2,q3,q4⟩:=Row.M1 (R8.out.below hB) hown hst (S8.out.trans (Stp.of_below hB)) HGG.out;refine⟨vc8,f8,_,(H8.out.below hB).Ra q2,q3,?_,q4⟩;rw[Qd,ko];exact q1)
      clear hown hst;go_roundw
      case rel=>exact⟨k+1,by simp,by omega,hfin.out⟩
      case measure=>simp[intOf];omega
  ·obtain rfl:k=n:=by omega
   rw[HN.out,List.take_length]at hI hR;rw[<-HN.out]at hI;have hwk:=(Hp.Dw st HW.out).ok;have hll:=du st H2;generalize hr:H2.AP st=r at *;obtain⟨Hk,ls⟩:=r;simp only at hI hR hwk hll;obtain⟨pl,cl,rfl⟩:=hR.AY;have hsz:=hwk.sz;have hol:=dp _ _ _ hwk.ol;have hot:=hwk.ot;have hb0:=Hk.BQ (!Hk.use);clear hr hwk hG hlt;rcases (show Hk.use=false\/Hk.use=true by cases Hk.use<;>simp) with hu|hu
   ·have hb:=hI.DX hu
    have hfinC:∀ sz tp Ci srl:Nat,sz=Hk.size->tp=Hk.top->Ci=Hk.scan->srl=Hk.Ax->Hk.rest.cells l.a vc' (Ah none 0 0) (.slice pa k cp) v3=#[Ag (some ⟨l.a,0,none⟩),I Z 1,I Z sz,I Z tp,I Z (1+(sz:Int)),I Z sz,I Z (1+(sz:Int)),vc',Ah none 0 0,I Z 0,.bool false,I Z 0,I Z Ci,I Z srl,.slice pa k cp,v3]:=fun sz tp Ci srl e1 e2 e3 e4=>by
     subst e1 e2 e3 e4;unfold Hp.cells Hp.rest Hp.base;simp[hu]
    have HE:=(fun W=>ml (b:=Hk.base (!Hk.use)) (s:=Hk.size) (t:=Hk.BD) ⟨by omega,by omega,by omega,by omega⟩ W)
    unfold Dg at HE;rw[show (Hk.base (!Hk.use):Int)=(1+(Hk.size:Int)) from by rw[hu];show ((1+Hk.size:Nat):Int)=_;omega]at HE
    replace HE:=Qa HE;generalize hg1:Hk.size=sz at hb HE hfinC;generalize hg2:Hk.top=tp at hb hfinC;generalize hg3:Hk.BD=otp at hb HE;generalize hg4:Hk.Bc=owd at hb;generalize hg5:Hk.scan=Ci at hb hfinC;generalize hg6:Hk.Ax=srl at hb hfinC;generalize hg7:Hk.AF=mv at hb;have HFC:=Qa (hfinC sz tp Ci srl rfl rfl rfl rfl);have HII:=Qa hI;have HSS:=Qa hS;have HRR:=Qa hR;clear hfinC hg1 hg2 hg3 hg4 hg5 hg6 hg7 hI hS hR hu;have c:=hb.cell;have z:=hb.free;have s:=hb.lt;go_upto_region 18 with fail;go_cut [] (fun wx=>Am wx l.h #[Ag (some ⟨l.a,0,none⟩),I Z 1,I Z sz,I Z tp,I Z (1+(sz:Int)),I Z sz,I Z (1+(sz:Int)),vc',vo,I Z 0,.bool mv,I Z owd,I Z Ci,I Z srl,.slice pa k cp,v3] 185/\Wr l.h wr wx)
    case first =>
     go_region_with (first|(go_at_call 187;refine (HE.out _).mono ?_;rintro e w4 ⟨rfl,hb4⟩;have j4:=Am.below (qi hb) hb4 (qi hb).lt;have c4:=j4.cell;have z4:=j4.free;have s4:=j4.lt)|fail)
     all_goals
      go_wp2_with fail;go_meet;exact⟨by simpa using ((j4.set 4 _).set 5 _).set 6 _,(((Wr.of_below (qe (qc wr))).trans (Wr.of_below hb4)).trans (Wr.set _ _ _ _)).trans ((Wr.set _ _ _ _).trans (Wr.set _ _ _ _))⟩
    case rest =>
     obtain⟨j2,r2⟩:=hcut;clear c z s hb;have c:=j2.cell;have z:=j2.free;have s:=j2.lt;have hfin:=Qa (show g6 w o l Hk.rest ls true (O (Aj #[.slice pl ls.length cl,.bool true])) (((wc.setCell ⟨l.h,8,none⟩ (Ah none 0 0)).setCell ⟨l.h,10,none⟩ (.bool false)).setCell ⟨l.h,11,none⟩ (I Z 0)) from by
      have j3:Am (((wc.setCell ⟨l.h,8,none⟩ (Ah none 0 0)).setCell ⟨l.h,10,none⟩ (.bool false)).setCell ⟨l.h,11,none⟩ (I Z 0)) l.h #[Ag (some ⟨l.a,0,none⟩),I Z 1,I Z sz,I Z tp,I Z (1+(sz:Int)),I Z sz,I Z (1+(sz:Int)),vc',Ah none 0 0,I Z 0,.bool false,I Z 0,I Z Ci,I Z srl,.slice pa k cp,v3] 185:=by simpa using ((j2.set 8 (Ah none 0 0)).set 10 (.bool false)).set 11 (I Z 0)
      rw[<-HFC.out]at j3;have hs:Stp (fun t=>t=(l.id,0)) o' o' wr (((wc.setCell ⟨l.h,8,none⟩ (Ah none 0 0)).setCell ⟨l.h,10,none⟩ (.bool false)).setCell ⟨l.h,11,none⟩ (I Z 0)):=Stp.BR (((r2.trans (Wr.set _ _ _ _)).trans (Wr.set _ _ _ _)).trans (Wr.set _ _ _ _)) HII.out.oh
      exact⟨_,vc',_,_,_,f',o',rfl,HII.out.Gz j3 hs,HSS.out.trans (hs.mono (by rintro _ rfl;exact⟨rfl,by simp⟩)),HRR.out.Ao hs (by simp)⟩)
     clear j2 r2;go_wp2_with fail;go_ret2;exact hfin.out
   ·have hb:=hI.DZ hu
    have hfinC:∀ sz tp Ci srl:Nat,sz=Hk.size->tp=Hk.top->Ci=Hk.scan->srl=Hk.Ax->Hk.rest.cells l.a vc' (Ah none 0 0) (.slice pa k cp) v3=#[Ag (some ⟨l.a,0,none⟩),I Z 1,I Z sz,I Z 1,I Z (1+(sz:Int)),I Z sz,I Z tp,Ah none 0 0,vc',I Z 1,.bool false,I Z 0,I Z Ci,I Z srl,.slice pa k cp,v3]:=fun sz tp Ci srl e1 e2 e3 e4=>by
     subst e1 e2 e3 e4;unfold Hp.cells Hp.rest Hp.base;simp[hu]
    have HE:=(fun W=>ml (b:=Hk.base (!Hk.use)) (s:=Hk.size) (t:=Hk.BD) ⟨by omega,by omega,by omega,by omega⟩ W)
    unfold Dg at HE;rw[show (Hk.base (!Hk.use):Int)=1 from by rw[hu];rfl]at HE
    replace HE:=Qa HE;generalize hg1:Hk.size=sz at hb HE hfinC;generalize hg2:Hk.top=tp at hb hfinC;generalize hg3:Hk.BD=otp at hb HE;generalize hg4:Hk.Bc=owd at hb;generalize hg5:Hk.scan=Ci at hb hfinC;generalize hg6:Hk.Ax=srl at hb hfinC;generalize hg7:Hk.AF=mv at hb;have HFC:=Qa (hfinC sz tp Ci srl rfl rfl rfl rfl);have HII:=Qa hI;have HSS:=Qa hS;have HRR:=Qa hR;clear hfinC hg1 hg2 hg3 hg4 hg5 hg6 hg7 hI hS hR hu;have c:=hb.cell;have z:=hb.free;have s:=hb.lt;go_upto_region 18 with fail;go_cut [] (fun wx=>Am wx l.h #[Ag (some ⟨l.a,0,none⟩),I Z 1,I Z sz,I Z 1,I Z (1+(sz:Int)),I Z sz,I Z tp,vo,vc',I Z 1,.bool mv,I Z owd,I Z Ci,I Z srl,.slice pa k cp,v3] 185/\Wr l.h wr wx)
    case first =>
     go_region_with (first|(go_at_call 187;refine (HE.out _).mono ?_;rintro e w4 ⟨rfl,hb4⟩;have j4:=Am.below (qi hb) hb4 (qi hb).lt;have c4:=j4.cell;have z4:=j4.free;have s4:=j4.lt)|fail)
     all_goals
      go_wp2_with fail;go_meet;exact⟨by simpa using ((j4.set 1 _).set 2 _).set 3 _,(((Wr.of_below (qe (qc wr))).trans (Wr.of_below hb4)).trans (Wr.set _ _ _ _)).trans ((Wr.set _ _ _ _).trans (Wr.set _ _ _ _))⟩
    case rest =>
     obtain⟨j2,r2⟩:=hcut;clear c z s hb;have c:=j2.cell;have z:=j2.free;have s:=j2.lt;have hfin:=Qa (show g6 w o l Hk.rest ls true (O (Aj #[.slice pl ls.length cl,.bool true])) (((wc.setCell ⟨l.h,7,none⟩ (Ah none 0 0)).setCell ⟨l.h,10,none⟩ (.bool false)).setCell ⟨l.h,11,none⟩ (I Z 0)) from by
      have j3:Am (((wc.setCell ⟨l.h,7,none⟩ (Ah none 0 0)).setCell ⟨l.h,10,none⟩ (.bool false)).setCell ⟨l.h,11,none⟩ (I Z 0)) l.h #[Ag (some ⟨l.a,0,none⟩),I Z 1,I Z sz,I Z 1,I Z (1+(sz:Int)),I Z sz,I Z tp,Ah none 0 0,vc',I Z 1,.bool false,I Z 0,I Z Ci,I Z srl,.slice pa k cp,v3] 185:=by simpa using ((j2.set 7 (Ah none 0 0)).set 10 (.bool false)).set 11 (I Z 0)
      rw[<-HFC.out]at j3;have hs:Stp (fun t=>t=(l.id,0)) o' o' wr (((wc.setCell ⟨l.h,7,none⟩ (Ah none 0 0)).setCell ⟨l.h,10,none⟩ (.bool false)).setCell ⟨l.h,11,none⟩ (I Z 0)):=Stp.BR (((r2.trans (Wr.set _ _ _ _)).trans (Wr.set _ _ _ _)).trans (Wr.set _ _ _ _)) HII.out.oh
      exact⟨_,vc',_,_,_,f',o',rfl,HII.out.Gz j3 hs,HSS.out.trans (hs.mono (by rintro _ rfl;exact⟨rfl,by simp⟩)),HRR.out.Ao hs (by simp)⟩)
     clear j2 r2;go_wp2_with fail;go_ret2;exact hfin.out
theorem J8 (h:AE w o l H vc vo vw vf f)(hw:H.wf) :
  Ab Tryz.prog 242 #[Ag (some ⟨l.h,0,none⟩)] w (g6 w o l H.drop.1 H.drop.2.1 H.drop.2.2):=by
 by_cases hm:H.AF=false\/H.scan≠H.top
 ·have e0:H.drop=(H,[],false):=by unfold Hp.drop;rw[if_pos hm]
  rw[e0];have hfin:=Qa (fun w' (hb:Ae w.heap.size w w')=>show g6 w o l H [] false (O (Aj #[Ah none 0 0,.bool false])) w' from ⟨_,vc,vo,vw,vf,f,o,rfl,h.below hb,Stp.of_below hb,Row.nil _ _ _ _ _⟩)
  have HM:=wj h;have HD:=y9 h;generalize H.AF=mv at HM hm;replace HM:=Qa HM
  cases mv
  ·clear h hw hm e0 HD
   go_enter Tryz.func242,Tryz.ntmps242;go_wp2_with fail;refine HM.out.mono ?_
   rintro e w1 ⟨rfl,rfl⟩
   go_wp2_with fail;go_ret2;exact hfin.out _ (qc _)
  ·have hs:H.scan≠H.top:=hm.resolve_left (by simp)
   rw[decide_eq_false hs]at HD;replace HD:=Qa HD;clear h hw hm e0 hs;go_enter Tryz.func242,Tryz.ntmps242;go_wp2_with fail;refine HM.out.mono ?_
   rintro e w1 ⟨rfl,rfl⟩
   go_wp2_with fail;refine HD.out.mono ?_
   rintro e w1 ⟨rfl,hb⟩
   go_wp2_with fail;go_ret2;exact hfin.out _ hb
 ·refine L2 h hw ?_ ?_
  ·cases hmm:H.AF
   ·exact absurd (.inl hmm) hm
   ·rfl
  ·exact Decidable.byContradiction fun e=>hm (.inr e)
end
end
end Go.Proofs.YteehgedabdchcaaGreat
