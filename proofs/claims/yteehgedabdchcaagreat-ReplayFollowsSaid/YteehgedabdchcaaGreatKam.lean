import Derived.Test.YteehgedabdchcaaGreatKaj
import Derived.Test.YteehgedabdchcaaGreatKal
import Derived.Test.YteehgedabdchcaaGreatKax
set_option linter.all false
set_option maxRecDepth 1000000
set_option maxHeartbeats 0
open Go renaming World->Aa,Calls->Ab,Value->Ac
open Go.RowKit renaming Below->Ae
open Go.Value renaming int->I,pointer->Ag,slice->Ah,tuple->Aj
open Go.IntKind renaming i64->Z
open Go.Ending renaming returned->O
open List renaming take_length->Ad,append_nil->Ai,drop_eq_getElem_cons->aa,drop_length->af,map_set->ag,map->ai
open Go.Proofs.Tryz
open Go.Proofs.Tryz renaming prog->ARt
namespace Go.Proofs.YteehgedabdchcaaGreat
section
open Go.RowKit Hp
section
variable {w : Aa} {o : Own} {l : A7} {H : Hp} {vc vo vw vf : Ac} {f : Nat -> Nat}
def zu (l:A7)(t:Tag):Prop:=t.1=l.id/\t.2<=6
def Mn (l:A7)(u:Bool):zu l (l.tc u):=by unfold zu A7.tc;cases u<;>simp
def Fu (w:Aa)(o:Own)(l:A7)(H':Hp)(vo vw vf:Ac)(w':Aa):Prop:=
 ∃ bM f' o',AA w' o' l H' bM vo vw vf f'/\Stp (zu l) o o' w w'
def AA.Bt (h:AA w o l H vc vo vw vf f){w':Aa}(hb:Ae w.1.size w w'):Fu w o l H vo vw vf w':=⟨vc,f,o,h.below hb,Stp.of_below hb⟩
def AA.EY (h:AA w o l H vc vo vw vf f):l.h≠l.wd:=by
 intro e;have h1:=h.oh;rw[e,h.ow]at h1;simp at h1
def bf (h:AA w o l H vc vo vw vf f) (hk:H.ok) (p:Nat) :
  Ab ARt 173 #[Ag (some ⟨l.h,0,none⟩),I Z p] w fun e w'=>e=O (I Z ((H.AB p).2:Nat))/\Fu w o l (H.AB p).1 vo vw vf w':=by
 have hth:=bi h hk p
 cases hp:BK H.old p with
 | none =>
  rw[hp]at hth;rw[H.CH hp];refine (JV hth).mono ?_;rintro e w' ⟨rfl,hb⟩;exact⟨rfl,h.Bt hb⟩
 | some z =>
  obtain⟨ob,g⟩:=z;rw[hp]at hth;have hsz:=hk.sz;have hroom:=hk.room;have htop:=ww hk;have hm:=ku hp;obtain⟨ho,b1,b2,b3⟩:=SG hk hp;have hrd:=kg _ (Ob.AU ho).2;have eQ:=Ob.AU ho;have hb0:=H.BJ (!H.use);have hb1:=H.BJ H.use
  cases g with
  | some q =>
   rw[H.CG hp];have hq:=hk.gone _ hm q rfl;have hf:=(h.BP _ hm).2 q rfl;simp only at hq hf;have hcp:=fun (W:Aa) (hb:Ae w.1.size w W)=>qpp (b:=H.base H.use) (s:=H.size) (t:=H.top) (h.B6.below hb) (show p<2*H.size+1 by omega) hq.1 hq.2 hf
   have hbl:=h.hb;rcases (show H.use=false\/H.use=true by cases H.use<;>simp) with hu|hu
   ·have e0:H.base H.use=1:=by rw[hu];rfl
    have e1:∀ (v1:Ac),H.cells l.a v1 vo vw vf=#[Ag (some ⟨l.a,0,none⟩),I Z 1,I Z H.size,I Z H.top,I Z (1+(H.size:Int)),I Z H.size,I Z H.Bv,v1,vo,I Z 0,.bool H.AD,I Z H.Bh,I Z H.scan,I Z H.Aw,vw,vf]:=fun v1=>by
     unfold Hp.cells;simp only[hu,Bool.false_eq_true,if_false]
    rw[e0]at hcp;rw[e1]at hbl;refine (qhm hbl hth hcp).mono ?_;rintro e w' ⟨rfl,hb⟩;exact⟨rfl,h.Bt hb⟩
   ·have e0:(H.base H.use:Int)=1+(H.size:Int):=by rw[hu];show (((1+H.size:Nat)):Int)=_;omega
    have e1:∀ (v1:Ac),H.cells l.a v1 vo vw vf=#[Ag (some ⟨l.a,0,none⟩),I Z 1,I Z H.size,I Z H.Bv,I Z (1+(H.size:Int)),I Z H.size,I Z H.top,vo,v1,I Z 1,.bool H.AD,I Z H.Bh,I Z H.scan,I Z H.Aw,vw,vf]:=fun v1=>by
     unfold Hp.cells;simp only[hu,if_true]
    unfold CW at hcp;rw[e0]at hcp;rw[e1]at hbl;refine (qgu hbl hth hcp).mono ?_;rintro e w' ⟨rfl,hb⟩;exact⟨rfl,h.Bt hb⟩
  | none =>
   have Aou:=hk.MY;have hge:=VJ hp;have hof:=(h.BP _ hm).1 rfl;simp only at hof;have hcp:=fun (W:Aa) (hb:Ae w.1.size w W)=>GK (b:=H.base H.use) (s:=H.size) (t:=H.top) (h.B6.below hb) hof ho (by omega) ⟨by omega,by omega,by omega,by omega⟩ (by omega) (by omega) (by omega)
   have hbl:=h.hb;have hQ:∀ W:Aa,BB W l.a l.wd (2*H.size+1) (FH f p H.top ob.size)->Wr l.wd w W ->
     Al (W.setCell ⟨l.h,11,none⟩ (I Z ((H.Bh-Bu ob.size:Nat):Int))) l.h ({ H with Bh:=H.Bh-Bu ob.size }.cells l.a vc vo vw vf) 185 ->
     Ab ARt 230 #[Ag (some ⟨l.h,0,none⟩),CW (H.base H.use) H.size (H.top+Bu ob.size),I Z H.top] (W.setCell ⟨l.h,11,none⟩ (I Z ((H.Bh-Bu ob.size:Nat):Int))) fun e w'=>e=O (Aj #[])/\Fu w o l (H.AB p).1 vo vw vf w':=by
    intro W hWd kF hB;have hs0:Stp (zu l) o o w W:=Stp.BE kF (by rw[h.ow];exact⟨rfl,by simp⟩)
    have hs1:Stp (zu l) o o w (W.setCell ⟨l.h,11,none⟩ (I Z ((H.Bh-Bu ob.size:Nat):Int))):=hs0.setCell (by rw[h.oh];exact⟨rfl,by simp⟩) _
    have vL:Stp (fun t=>t=(l.id,2)\/t=(l.id,0)) o o w (W.setCell ⟨l.h,11,none⟩ (I Z ((H.Bh-Bu ob.size:Nat):Int))):=(Stp.BE kF (by rw[h.ow];exact .inl rfl)).setCell (by rw[h.oh];exact .inr rfl) _
    have hrc:=h.rc.Ao vL (by cases H.use<;>simp)
    have hro:=h.ro.Ao vL (by cases H.use<;>simp)
    have hrw:=h.rw.Ao vL (by simp)
    have hrf:=h.rf.Ao vL (by simp)
    have Anw:=hWd.wr (Wr.set l.h W 11 (I Z ((H.Bh-Bu ob.size:Nat):Int))) (by intro e;have h1:=h.oa;rw[e,h.oh]at h1;simp at h1) (fun e=>h.EY e.symm)
    refine (qnh (H:={ H with Bh:=H.Bh-Bu ob.size }) hB hrc (by
     have:=mg _ _ _ hk.cl hk.ck;omega) h.oh H.top (H.top+Bu ob.size)).mono ?_
    rintro e w' ⟨rfl,bM,o',g1,g2,g3⟩;have hne:∀ j,j≠0->(l.id,j)≠l.tc H.use->¬((l.id,j)=(l.id,0)\/(l.id,j)=l.tc H.use):=fun j h1 h2 h=>h.elim (fun e=>h1 (by simpa using e)) h2
    have vD:∀ j,j≠3->j≠4->(l.id,j)≠l.tc H.use:=fun j h3 h4 e=>by unfold A7.tc at e;cases hu:H.use<;>rw[hu]at e<;>simp at e<;>omega
    refine⟨rfl,bM,FH f p H.top ob.size,o',?_,?_⟩
    ·refine h.Wi hk hp (by rw[H.Cc hp];exact g1) (Anw.Ao g3 ?_ ?_) g2 (hro.Ao g3 ?_) (hrw.Ao g3 (hne _ (by simp) (vD _ (by simp) (by simp)))) (hrf.Ao g3 (hne _ (by simp) (vD _ (by simp) (by simp)))) (fun b hb=>(g3.tags b (Qn hb hs1.size)).trans (hs1.tags b hb))
     ·rw[h.oa];exact hne _ (by simp) (vD _ (by simp) (by simp))
     ·rw[h.ow];exact hne _ (by simp) (vD _ (by simp) (by simp))
     ·unfold A7.tc;cases H.use<;>simp
    ·exact hs1.trans (g3.mono fun t ht=>by
      rcases ht with rfl|rfl
      ·exact⟨rfl,by simp⟩
      ·exact Mn _ _)
   rcases (show H.use=false\/H.use=true by cases H.use<;>simp) with hu|hu
   ·have e0:H.base H.use=1:=by rw[hu];rfl
    have e1:∀ (x:Nat) (v1:Ac),{ H with Bh:=x }.cells l.a v1 vo vw vf=#[Ag (some ⟨l.a,0,none⟩),I Z 1,I Z H.size,I Z H.top,I Z (1+(H.size:Int)),I Z H.size,I Z H.Bv,v1,vo,I Z 0,.bool H.AD,I Z x,I Z H.scan,I Z H.Aw,vw,vf]:=fun x v1=>by
     unfold Hp.cells;simp only[hu,Bool.false_eq_true,if_false]
    rw[e0]at hcp hQ htop hroom;rw[show H.cells l.a vc vo vw vf={ H with Bh:=H.Bh }.cells l.a vc vo vw vf from rfl,e1]at hbl;simp only[e1]at hQ;refine (MM hbl hth hcp h.EY h.B6.lt h.B6.BM.lt ⟨by omega,by omega⟩ ⟨htop,by omega,by omega,by omega⟩ _ hQ).mono ?_
    rintro e w' ⟨rfl,hq⟩;exact⟨by rw[H.Cc hp],hq⟩
   ·have e0:H.base H.use=1+H.size:=by rw[hu];rfl
    have e1:∀ (x:Nat) (v1:Ac),{ H with Bh:=x }.cells l.a v1 vo vw vf=#[Ag (some ⟨l.a,0,none⟩),I Z 1,I Z H.size,I Z H.Bv,I Z (1+(H.size:Int)),I Z H.size,I Z H.top,vo,v1,I Z 1,.bool H.AD,I Z x,I Z H.scan,I Z H.Aw,vw,vf]:=fun x v1=>by
     unfold Hp.cells;simp only[hu,if_true]
    rw[e0]at hcp hQ htop hroom;have e2:((1+H.size:Nat):Int)=1+(H.size:Int):=by omega
    unfold CW at hcp hQ;rw[e2]at hcp hQ;rw[show H.cells l.a vc vo vw vf={ H with Bh:=H.Bh }.cells l.a vc vo vw vf from rfl,e1]at hbl;simp only[e1]at hQ;refine (MN hbl hth hcp h.EY h.B6.lt h.B6.BM.lt ⟨by omega,by omega⟩ ⟨htop,by omega,by omega,by omega⟩ _ hQ).mono ?_
    rintro e w' ⟨rfl,hq⟩;exact⟨by rw[H.Cc hp],hq⟩
end
end
section
open Go.RowKit Hp
attribute [local go_sem ↓] Go.wp_at_zero Go.wp_at_succ
section
variable {w : Aa} {o : Own} {l : A7} {H : Hp} {vc vo vw vf : Ac} {f : Nat -> Nat}
def Fu.after {w' w'':Aa}{o':Own}{H':Hp}(h1:Stp (zu l) o o' w w')(h2:Fu w' o' l H' vo vw vf w''):Fu w o l H' vo vw vf w'':=by
 obtain⟨bM,f',o2,h3,h4⟩:=h2;exact⟨bM,f',o2,h3,h1.trans h4⟩
def AA.DX {w':Aa}(h:AA w o l H vc vo vw vf f)(hk:H.ok){p:Nat}{ob dK:Ob}(hp:lk H.cur p=some ob){k v:Nat}(hkk:k<ob.size)
  (hT:Turned w w' l.a l.wd (2*H.size+1) (upd f (p+k) v))(ho:Bj (upd f (p+k) v) p dK):Fu w o l { H with cur:=up H.cur p dK } vo vw vf w':=
 ⟨vc,_,o,h.turn hk hp hkk hT ho,Stp.BE hT.2 (by rw[h.ow];exact⟨rfl,by simp⟩)⟩
def Jt (h:AA w o l H vc vo vw vf f)(hw:H.wf)(p i:Nat) :
  Ab ARt 112 #[Ag (some ⟨l.h,0,none⟩),I Z p,I Z i] w fun e w'=>e=O (Aj #[I Z ((H.Bi p i).2.1:Nat),I Z ((H.Bi p i).2.2:Nat)])/\Fu w o l (H.Bi p i).1 vo vw vf w':=by
 have hk:=hw.ok;unfold Hp.Bi
 cases hp:lk H.cur p with
 | none=>exact (Mt h hk hp i).mono fun _ _ ⟨a,b⟩=>⟨a,h.Bt b⟩
 | some ob =>
  simp only;have ho:=hw.EZ hp
  cases hx:ob.Bc[i]? with
  | none=>exact (Ju h hk hp i (by have:=List.getElem?_eq_none_iff.1 hx;rw[ho.lp]at this;exact this)).mono fun _ _ ⟨a,b⟩=>⟨a,h.Bt b⟩
  | some x =>
   simp only;obtain⟨ha,_,hl,_⟩:=h.at_ hk hp;have HH:=Qa (km h hk hp);have HN:=Qa (fun w' (hw:Ae w.1.size w w')=>UT (h.B6.below hw) ha ho hl i x hx p i rfl rfl);have HC:=Qa (fun w' (hw:Ae w.1.size w w')=>(h.below hw).A5);have HT:=(fun w' (hw:Ae w.1.size w w')=>bi (h.below hw) hk x)
   cases ht:(BK H.old x).isSome with
   | false =>
    rw[ht]at HT;replace HT:=Qa HT;have HI:=Qa h;clear h hk hw hp ha ho hl hx ht;rw[if_neg (by simp)]
    go_enter func112,ntmps112;go_wp2_with fail;refine HH.out.mono ?_;rintro e w1 ⟨rfl,hb1⟩;have c1:=HC.out _ hb1;go_wp2_with fail;refine (HN.out _ hb1).mono ?_;rintro e w2 ⟨rfl,hb2⟩;go_wp2_with fail;refine (HT.out _ (qe hb1 hb2)).mono ?_;rintro e w3 ⟨rfl,hb3⟩;go_wp2_with fail;go_ret2;exact⟨rfl,HI.out.Bt (qe (qe hb1 hb2) hb3)⟩
   | true =>
    rw[ht]at HT;replace HT:=Qa HT;rw[if_pos rfl];have HM:=(fun w' (hw:Ae w.1.size w w')=>bf (h.below hw) hk x);have hmk:=Hp.DL hk x;have hmb:=TJ hk (ho.ptr x (Qe hx));have hmp:=TF (p:=x) hp;have hsz:=(gg (H:=H) x).1;have hip:i<ob.AQ.p:=by have:=(Qc.1 hx).1;rw[ho.lp]at this;exact this
    generalize H.AB x=r at *;obtain⟨H',q⟩:=r;simp only at HM hmk hmb hmp hsz ⊢;have HE:=Qa (fun (w1 w':Aa)(o1:Own) vc1 f1 (h1:AA w1 o1 l H' vc1 vo vw vf f1) hT=>h1.DX (w':=w') hmk hmp (k:=3+i) (by unfold Ob.size;omega) hT (by rw[show p+(3+i)=p+3+i from by omega];exact (h1.at_ hmk hmp).1.Bm ho i q hip))
    rw[show p+(3+i)=p+3+i from by omega]at HE
    have HS:=Qa (fun (w1:Aa)(o1:Own) vc1 f1 (h1:AA w1 o1 l H' vc1 vo vw vf f1)=>yk h1.B6 (h1.at_ hmk hmp).1 ho (h1.at_ hmk hmp).2.2.1 i q hip hmb p i q rfl rfl rfl);replace HM:=Qa HM;clear h hk hw hp ha ho hl hx ht hmk hmb hmp hip hsz;go_enter func112,ntmps112;go_wp2_with fail;refine HH.out.mono ?_;rintro e w1 ⟨rfl,hb1⟩;have c1:=HC.out _ hb1;go_wp2_with fail;refine (HN.out _ hb1).mono ?_;rintro e w2 ⟨rfl,hb2⟩;go_wp2_with fail;refine (HT.out _ (qe hb1 hb2)).mono ?_;rintro e w3 ⟨rfl,hb3⟩;go_wp2_with fail;refine (HM.out _ (qe (qe hb1 hb2) hb3)).mono ?_;rintro e w4 ⟨rfl,vc4,f4,o4,h4,hs4⟩;have c4:=h4.A5;go_wp2_with fail;refine (HS.out _ _ _ _ h4).mono ?_;rintro e w5 ⟨rfl,hT5⟩;go_wp2_with fail;go_ret2;exact⟨rfl,Fu.after ((Stp.of_below (qe (qe hb1 hb2) hb3)).trans hs4) (HE.out _ _ _ _ _ h4 hT5)⟩
def qid (h:AA w o l H vc vo vw vf f)(hw:H.wf)(p i q:Nat) :
  Ab ARt 113 #[Ag (some ⟨l.h,0,none⟩),I Z p,I Z i,I Z q] w fun e w'=>e=O (I Z ((H.Br p i q).2:Nat))/\Fu w o l (H.Br p i q).1 vo vw vf w':=by
 have hk:=hw.ok;unfold Hp.Br
 cases hp:lk H.cur p with
 | none=>exact (qkr h hk hp i q).mono fun _ _ ⟨a,b⟩=>⟨a,h.Bt b⟩
 | some ob =>
  simp only;obtain⟨ha,ho,hl,_⟩:=h.at_ hk hp;have HH:=Qa (km h hk hp);have HC:=Qa (fun w' (hw:Ae w.1.size w w')=>(h.below hw).A5);have HI:=Qa h;by_cases hq:q≠0/\lk H.cur q=none
  ·rw[if_pos hq]
   have HQ:=Qa (fun w' (hw:Ae w.1.size w w')=>yh (h.below hw) hk hq.2);have hqi:(q:Int)≠0:=by have:=hq.1;omega
   clear h hk hw hp ha ho hl hq;go_enter func113,ntmps113;go_wp2_with fail;refine HH.out.mono ?_;rintro e w1 ⟨rfl,hb1⟩;go_wp2_with fail;refine (HQ.out _ hb1).mono ?_;rintro e w2 ⟨rfl,hb2⟩;go_wp2_with fail;go_ret;exact⟨rfl,HI.out.Bt (qe hb1 hb2)⟩
  ·rw[if_neg hq]
   by_cases hi:ob.AQ.p<=i
   ·rw[if_pos hi]
    have HN:=Qa (fun w' (hw:Ae w.1.size w w')=>qlw (h.B6.below hw) ha ho hl i hi p i q rfl rfl);by_cases h0:q=0
    ·subst h0
     clear h hk hw hp ha ho hl hq hi;go_enter func113,ntmps113;go_wp2_with fail;refine HH.out.mono ?_;rintro e w1 ⟨rfl,hb1⟩;have c1:=HC.out _ hb1;go_wp2_with fail;refine (HN.out _ hb1).mono ?_;rintro e w2 ⟨rfl,hb2⟩;go_wp2_with fail;go_ret;exact⟨rfl,HI.out.Bt (qe hb1 hb2)⟩
    ·obtain⟨oq,hoq⟩:∃ oq,lk H.cur q=some oq:=by
      cases hoq:lk H.cur q with
      | none=>exact absurd ⟨h0,hoq⟩ hq
      | some oq=>exact⟨oq,rfl⟩
     have HQ:=Qa (fun w' (hw:Ae w.1.size w w')=>km (h.below hw) hk hoq);have hqi:(q:Int)≠0:=by omega
     clear h hk hw hp ha ho hl hq hi hoq;go_enter func113,ntmps113;go_wp2_with fail;refine HH.out.mono ?_;rintro e w1 ⟨rfl,hb1⟩;go_wp2_with fail;refine (HQ.out _ hb1).mono ?_;rintro e w2 ⟨rfl,hb2⟩;have c1:=HC.out _ (qe hb1 hb2);go_wp2_with fail;refine (HN.out _ (qe hb1 hb2)).mono ?_;rintro e w3 ⟨rfl,hb3⟩;go_wp2_with fail;go_ret;exact⟨rfl,HI.out.Bt (qe (qe hb1 hb2) hb3)⟩
   ·rw[if_neg hi]
    have hq':q=0\/(lk H.cur q).isSome=true:=by
     by_cases h0:q=0
     ·exact .inl h0
     ·refine .inr ?_
      cases hoq:lk H.cur q with
      | none=>exact absurd ⟨h0,hoq⟩ hq
      | some oq=>rfl
    refine (qkf h hk hp i q (by omega) hq').mono ?_
    rintro e w' ⟨rfl,_,⟨f',h'⟩,hw⟩;exact⟨rfl,vc,f',o,h',Stp.BE hw (by rw[h.ow];exact⟨rfl,by simp⟩)⟩
end
def NS {H:Hp}(hk:H.ok){p:Nat}{ob:Ob}(hp:lk H.cur p=some ob):up H.cur p ob=H.cur:=by
 unfold up;refine (List.map_congr_left fun x hx=>?_).trans (List.map_id _)
 split
 ·rename_i e
  obtain⟨q,y⟩:=x;simp only at e;subst e;rw[Sy hk.cl hk.ck (kj hp) hx];rfl
 ·rfl
def pg:∀ (l:List Nat)(p:Nat)(H:Hp),H.Ax (l++[p])=(((H.Ax l).1.AB p).1,(H.Ax l).2++[((H.Ax l).1.AB p).2])
 | [],p,H=>rfl
 | q::l,p,H=>by
  have:=pg l p (H.AB q).1;show ((((H.AB q).1.Ax (l++[p])).1,(H.AB q).2::((H.AB q).1.Ax (l++[p])).2):Hp×List Nat)=_;rw[this];rfl
def Kz {H:Hp}(hw:H.wf)(hm:H.AD=true)(hs:H.scan≠H.top){ob:Ob}(hp:lk H.cur H.scan=some ob) :
  H.Ba=({ (H.Ax ob.AN).1 with cur:=up (H.Ax ob.AN).1.cur H.scan (ob.Cn (H.Ax ob.AN).2),scan:=H.scan+Bu ob.size },true):=by
 unfold Hp.Ba;rw[if_neg (by rw[hm];simp[hs]),hp]
 simp only;unfold Ob.AN Ob.Cn;split
 ·show _=(({ H with cur:=up H.cur H.scan ob,scan:=H.scan+Bu ob.size }:Hp),true)
  rw[NS hw.ok hp]
 ·rfl
section
variable {w w' : Aa} {o : Own} {l : A7} {H : Hp} {vc vo vw vf : Ac} {f : Nat -> Nat}
abbrev CY (l:A7):Tag:=(l.id+1,0)
def SL (l:A7):¬zu l (CY l):=by unfold zu;simp
def AA.boxed (h:AA w o l H vc vo vw vf f){a:Addr}(ht:o a.block=CY l)(v:Ac):AA (w.setCell a v) o l H vc vo vw vf f:=by
 have hs:=(Stp.refl (fun t=>t=CY l) o w).setCell (a:=a) ht v
 have hn:∀ j,¬(l.id,j)=CY l:=fun j=>by simp
 exact⟨h.hb.Ao hs (by rw[h.oh];exact hn _),h.B6.Ao hs (by rw[h.oa];exact hn _) (by rw[h.ow];exact hn _),h.rc.Ao hs (hn _),h.ro.Ao hs (hn _),h.rw.Ao hs (hn _),h.rf.Ao hs (hn _),h.oh,h.oa,h.ow,h.E0,h.BP⟩
def set_mid {α:Type}(a b:List α)(x y:α):(a++x::b).set a.length y=(a++[y])++b:=by
 rw[List.set_append_right _ _ (Qk _)];simp
def AA.c0 (h:AA w o l H vc vo vw vf f):w.cell? ⟨l.h,0,none⟩=some (Ag (some ⟨l.a,0,none⟩)):=h.A5
def AA.El (h:AA w o l H vc vo vw vf f):w.cell? ⟨l.h,12,none⟩=some (I Z H.scan):=by rw[h.hb.cell];unfold Hp.cells;split<;>rfl
def NC (h0 : AA w o l H vc vo vw vf f) (hw : H.wf) (hm : H.AD = true) (hs : H.scan ≠ H.top) :
    Ab ARt 129 #[Ag (some ⟨l.h, 0, none⟩)] w fun e w' => e = O (.bool H.Ba.2) /\ Fu w o l H.Ba.1 vo vw vf w' := by
  obtain ⟨o1, ho1⟩ : ∃ o1, o1 = ext o w.1.size (CY l) := ⟨_, rfl⟩;have h := h0.retag (o' := o1) fun b hb => by rw [ho1]; exact qr hb
  have hS0 : Stp (zu l) o o1 w w := by rw [ho1]; exact (Stp.refl _ o w).ext _ _ (Qk _)
  have hbx : ∀ b, w.1.size <= b -> o1 b = CY l := fun b hb => by rw [ho1]; exact qz hb
  have dN : ∀ n, w.1.size <= n -> ext o1 n (CY l) = o1 := fun n hn => by rw [ho1]; exact Sz _ _ _ _ hn
  clear ho1 h0;obtain ⟨ob, hp, _⟩ := VA hw hm hs;rw [Kz hw hm hs hp];have hk := hw.ok;obtain ⟨ha, ho, hl, _⟩ := h.at_ hk hp;have hsb := VH hw hp;have HM := Qa (xg h);rw [hm] at HM;have HD := po h;rw [decide_eq_false hs] at HD;replace HD := Qa HD;have wU := Qa (fun (W : Aa) (hb : Ae w.1.size w W) => kr (h.B6.below hb) ha ho hl H.scan rfl)
  have tO := Qa (fun (W : Aa) (hb : Ae w.1.size w W) => qk9 (h.B6.below hb) ha ho hl)
  have HZ := Qa (fun W => yg ob.AQ ho.AQ W)
  have eQ := Ob.AU ho;have hsz : ob.size = 3 + ob.AQ.p + ob.AQ.d := rfl;have HN := Qa (fun W => pz (3 + ob.AQ.p + ob.AQ.d) (by omega) (by omega) _ rfl W)
  have hpb : ∀ x ∈ ob.AN, x <= 131072 := fun x hx => by
    unfold Ob.AN at hx;split at hx
    · cases hx
    · exact ho.ptr x hx
  have HI := Qa h;have iV := Qa hS0;have HB := Qa hbx;have HE := Qa dN;have HW := Qa hw;have HP := Qa hp;have HO := Qa ho;have HPB := Qa hpb;have HSB := Qa hsb;have hl8 : ob.AN.length <= 8 := by
    unfold Ob.AN;split
    · exact Nat.zero_le _
    · rw [ho.lp]; exact ho.AQ.1
  have hok0 := h.hb.lt;have c0 := fun W (hb : Ae w.1.size w W) => (h.below hb).c0
  have El := fun W (hb : Ae w.1.size w W) => (h.below hb).El
  have C0 := Qa c0;have C12 := Qa El;clear c0 El h hS0 hbx dN hw hm hs hp hk ha ho hl hpb hsb;go_enter func129, ntmps129;go_wp2_with fail;refine HM.out.mono ?_;rintro e w1 ⟨rfl, rfl⟩;go_wp2_with fail;refine HD.out.mono ?_;rintro e w1 ⟨rfl, b1⟩;have k0 := C0.out _ b1;have k12 := C12.out _ b1;have s1 : l.h < w1.1.size := Qn hok0 b1.size;have hn1 := World.new_ne w1 ⟨l.h, 0, none⟩ k0;go_upto_region 3 with fail;go_cut [3, 5] (fun t3 t5 wx => ∃ B, t3 = Ag (some ⟨B, 0, none⟩) /\ t5 = I Z 0 /\ Al wx B #[I Z ob.AQ.p, I Z ob.AQ.d, .bool ob.AQ.Az, .bool ob.AQ.final] 93 /\ Ae w1.1.size w1 wx /\ w1.1.size <= B)
  case first =>
    go_region_with (first | (go_at_call 130; refine (wU.out _ (by first | exact qf b1 | exact qf (qc b1 _) | exact qc (qf b1) _)).mono ?_; rintro e w4 ⟨rfl, hb4⟩; try (have dL : Al w4 w1.1.size #[I Z 0, I Z 0, .bool false, .bool false] 93 := Al.below (qj (Al.new w1 _ _)) hb4 (by simp); have cB4 := dL.cell; have zB4 := dL.free; have sB4 := dL.lt)) | fail)
    all_goals
      go_wp2_with fail;go_meet;have hs4 : w1.1.size <= w4.1.size := by have := hb4.size; simp at this; omega
      first
        | (refine ⟨w4.1.size, by with_reducible rfl, rfl, ?_, ?_, hs4⟩
           · exact Al.new _ _ _
           · exact qc (qe (qf (qd w1)) hb4) _)
        | (refine ⟨w1.1.size, by with_reducible rfl, rfl, ?_, ?_, Qk _⟩
           · have h8 := (((dL.set 0 (I Z ob.AQ.p)).set 1 (I Z ob.AQ.d)).set 2 (.bool ob.AQ.Az)).set 3 (.bool ob.AQ.final)
             simp only [Array.setIfInBounds_def] at h8;simpa using h8
           · exact zc (zc (zc (zc (qe (qf (qc (qd w1) _)) hb4) (Qk _) _) (Qk _) _) (Qk _) _) (Qk _) _)
  case rest =>
    obtain ⟨B, rfl, rfl, jB, hbc, uS⟩ := hcut;have b2 := qe b1 hbc;have hBw : w.1.size <= B := Qo b1.size uS;clear k0 k12 s1 hn1 hbc b1 uS;have k0 := C0.out _ b2;have k12 := C12.out _ b2;go_upto_region 6 with fail;go_cut [5, 6] (fun t5 t6 wx => ∃ pa cp, t5 = I Z 0 /\ t6 = .slice pa ob.AN.length cp /\ Row wx o1 (CY l) 3 1 (.slice pa ob.AN.length cp) ob.AN.length (ob.AN.map nv) /\ Ae w.1.size w wx /\ Al wx B #[I Z ob.AQ.p, I Z ob.AQ.d, .bool ob.AQ.Az, .bool ob.AQ.final] 93 /\ ∀ b, (Value.slice pa ob.AN.length cp).ownBlock = some b -> w.1.size <= b)
    case first =>
      go_region_with (first | (go_at_call 194; refine (tO.out _ (qf b2)).mono ?_; rintro e w6 ⟨v, rfl, eY, hb6⟩) | fail)
      all_goals
        go_wp2_with fail;go_meet;obtain ⟨pa, cp, rfl⟩ := eY.AS;have hge := eY.QN;have eY := eY.out o1 (CY l);rw [HE.out _ (qf b2).size] at eY;exact ⟨pa, cp, rfl, rfl, eY, qe (qf b2) hb6, (qj jB).below hb6 (qj jB).lt, fun b hb => Qo (qf b2).size (hge b hb)⟩
    case rest =>
    clear k0 k12;obtain ⟨pa, cp, rfl, rfl, eY, b6, jB6, Afr⟩ := hcut;clear jB b2;generalize wc = w6 at *;obtain ⟨n, hn⟩ : ∃ n, n = ob.AN.length := ⟨_, rfl⟩;have gZ := Qa hn;rw [<- hn] at eY hl8 ⊢;have xH : (n : Int) <= 8 := by omega
    have Agj : Row w6 o1 (CY l) 3 1 (.slice pa n cp) n (((H.Ax (ob.AN.take 0)).2 ++ ob.AN.drop 0).map nv) := by simpa [Hp.Ax] using eY
    have hI6 := HI.out.below b6;have HGe := Qa Afr;have Aek := HB.out B hBw;have eU : Stp (zu l) o1 o1 w w6 := Stp.of_below b6;clear hn eY b6 Afr;go_wp2_with fail;go_loopw [52] (fun ix wr => ∃ (k : Nat) (bM : Ac) (f' : Nat -> Nat) (o' : Own), ix = I Z k /\ k <= n /\ AA wr o' l (H.Ax (ob.AN.take k)).1 bM vo vw vf f' /\ Stp (zu l) o1 o' w wr /\ Row wr o' (CY l) 3 1 (.slice pa n cp) n (((H.Ax (ob.AN.take k)).2 ++ ob.AN.drop k).map nv) /\ Al wr B #[I Z ob.AQ.p, I Z ob.AQ.d, .bool ob.AQ.Az, .bool ob.AQ.final] 93 /\ o' B = CY l) (fun ix _ => n - (intOf ix).toNat)
    case atStart => exact ⟨0, vc, f, o1, rfl, by omega, hI6, eU, Agj, jB6, Aek⟩
    case round =>
      obtain ⟨k, bM, f', o', rfl, hkn, hI, hS, hR, hJ, hBt⟩ := hrel;clear hI6 Agj jB6 eU Aek;by_cases hlt : k < n
      · have gT : (k : Int) < (n : Int) := by omega
        have hk8 : (k : Int) < 8 := by omega
        obtain ⟨x, hx⟩ : ∃ x, ob.AN[k]? = some x := ⟨_, Qb (by rw [<- gZ.out]; omega)⟩
        have htk := kh hx;have FE : ob.AN.drop k = x :: ob.AN.drop (k + 1) := by
          have := (Qc.1 hx);obtain ⟨h1, h2⟩ := this;rw [<- h2]; exact aa h1
        have hwk := (Hp.BU (ob.AN.take k) HW.out).ok;have hsn := pg (ob.AN.take k) x H;rw [<- htk] at hsn;have hlen : (H.Ax (ob.AN.take k)).2.length = k := by rw [wa, Qp, <- gZ.out]; omega
        have pY := Qa hsn;rw [FE] at hR;generalize H.Ax (ob.AN.take k) = r at *;obtain ⟨Hk, lk'⟩ := r;simp only at hI hR hwk hlen pY;rcases hR.shape with ⟨_, h0⟩ | ⟨g, c, e1, hnc, hcm⟩
        · omega
        · injection e1 with e1 _ e3
          subst e1 e3;have BF : (lk' ++ x :: ob.AN.drop (k + 1)).set k (Hk.AB x).2 = (lk' ++ [(Hk.AB x).2]) ++ ob.AN.drop (k + 1) := by
            have := set_mid lk' (ob.AN.drop (k + 1)) x (Hk.AB x).2;rwa [hlen] at this
          have cx : wr.cell? ⟨g, k, none⟩ = some (I Z x) := by
            refine hR.cells k _ ?_;rw [Qj, Ql (by omega), hlen]; simp [nv]
          have yM := Qa (bf hI hwk x);have yS := Qa BF;have HLen := Qa hlen;have kY := Qa hS;have HR := Qa hR;have HJ := Qa hJ;have HBt := Qa hBt;have hgl := hR.blt;clear hsn FE htk BF hwk hlen hx hI hS hR hJ hBt;go_wp2_with fail;refine yM.out.mono ?_;rintro e w7 ⟨rfl, vc7, f7, o7, hI7, oH⟩;have kE := HR.out.Ao oH (SL l);have hJ7 := HJ.out.Ao oH (by rw [HBt.out]; exact SL l)
          have z7 := kE.free k;have s7 := kE.blt;obtain ⟨u7, c7⟩ : ∃ u, w7.cell? ⟨g, k, none⟩ = some u := by
            have h1 : k < (ai nv (lk' ++ x :: ob.AN.drop (k + 1))).length := by rw [kE.len]; omega
            exact ⟨_, kE.cells k _ (Qb h1)⟩
          have hfin := Qa (show ∃ (bM : Ac) (f' : Nat -> Nat) (o' : Own), AA (w7.setCell ⟨g, k, none⟩ (I Z (Hk.AB x).2)) o' l (H.Ax (ob.AN.take (k + 1))).1 bM vo vw vf f' /\ Stp (zu l) o1 o' w (w7.setCell ⟨g, k, none⟩ (I Z (Hk.AB x).2)) /\ Row (w7.setCell ⟨g, k, none⟩ (I Z (Hk.AB x).2)) o' (CY l) 3 1 (Ah (some ⟨g, 0, none⟩) n cp) n (((H.Ax (ob.AN.take (k + 1))).2 ++ ob.AN.drop (k + 1)).map nv) /\ Al (w7.setCell ⟨g, k, none⟩ (I Z (Hk.AB x).2)) B #[I Z ob.AQ.p, I Z ob.AQ.d, .bool ob.AQ.Az, .bool ob.AQ.final] 93 /\ o' B = CY l from by
            have hgB : B ≠ g := fun e => by
              subst e;have h1 := hJ7;unfold Al at h1;rcases kE.own.2 with ⟨h', _⟩ | ⟨g', cap', cur, h', _, hg, _⟩
              · simp at h'
              · injection h' with h' _ _
                injection h' with h';injection h' with h' _ _;subst h';rw [h1] at hg;injection hg with hg;injection hg with _ hg _;exact absurd hg (by decide)
            rw [pY.out];refine ⟨vc7, f7, o7, hI7.boxed kE.CZ _, ?_, ?_, hJ7.Am hgB _, (oH.tags _ HJ.out.lt).trans HBt.out⟩
            · exact (kY.out.trans oH).setCell_new (HGe.out g rfl) _
            · have := kE.M3 k (I Z (Hk.AB x).2)
              rw [show (Value.int IntKind.i64 ((Hk.AB x).2 : Nat)) = nv (Hk.AB x).2 from rfl, <- ag, yS.out] at this;exact this)
          clear kE hJ7 oH hI7;go_wp2_with fail;obtain ⟨vc8, f8, o8, g1, g2, g3, g4, g5⟩ := hfin.out;go_roundw
          case rel => exact ⟨k + 1, vc8, f8, o8, by simp, by omega, g1, g2, g3, g4, g5⟩
          case measure => simp [intOf]; omega
      · obtain rfl : k = n := by omega
        clear hlt;rw [gZ.out, Ad] at hI;rw [gZ.out, Ad, af, Ai, <- gZ.out] at hR;have hwk := (Hp.BU ob.AN HW.out);have hmp := Up ob.AN HP.out;have hpb := Ul ob.AN HW.out.ok HPB.out;have hlen := wa ob.AN H;obtain ⟨s1, s2, s3, s4, s5, s6, s7, s8⟩ := xl ob.AN H;have hsc : (H.Ax ob.AN).1.scan = H.scan := s4;clear s1 s2 s3 s4 s5 s6 s7 s8;generalize hr : H.Ax ob.AN = r at *;obtain ⟨Hk, ps⟩ := r;have HRr := Qa hr;clear hr;simp only at hI hR hwk hmp hpb hlen hsc;obtain ⟨ha, ho, hl, _⟩ := hI.at_ hwk.ok hmp;have Ago : ∀ W', Wr l.wd wr W' -> Ints W' (.slice pa k cp) ps := fun W' kF => by
          have := (hR.Ao (Stp.BE (T := fun t => t = (l.id, 2)) kF hI.ow) (by simp))
          rw [show k = ps.length from by rw [hlen, gZ.out]] at this ⊢
          exact this.ints
        have yR := Qa (qew (hI.B6.below (qf (qd wr))) ha ho hl ps hpb (by rw [hlen]) (v := .slice pa k cp) (fun W' kF => Ago W' kF.DY))
        have c0 := hI.c0;have El := hI.El;rw [hsc] at El;have sQ := Qa hI;have kY := Qa hS;have HJ := Qa hJ;have qZ := Qa hwk;have HMp := Qa hmp;have Aga : B ≠ l.wd := fun e => by have h1 := hBt; rw [e, hI.ow] at h1; simp at h1
        have HNe := Qa Aga;have AFr := HSB.out;have Aox : (H.scan : Int) + (Bu ob.size : Int) <= 65536 := by omega
        clear hI hS hR hJ hBt hwk hmp hpb hlen ha ho hl Ago Aga;go_upto_region 14 with fail;go_still_tail 9, (by kernel_rfl)
        change wpList _ _ _ _ _ wr.drew;go_wp2_with fail;refine yR.out.mono ?_;rintro e w9 ⟨rfl, f9, oL, hR9, hO9, hE9⟩;have hI9 := (sQ.out.below (qf (qd wr))).NR qZ.out.ok HMp.out oL hR9 hE9 hO9;have hJ9 := (qj HJ.out).wr hR9 HNe.out;have hS9 : Stp (zu l) o1 o' w w9 := kY.out.trans ((Stp.of_below (qf (qd wr))).trans (Stp.BE hR9 (by rw [sQ.out.ow]; exact ⟨rfl, by simp⟩)))
        clear c0 El oL hR9 hO9 hE9;have cB := hJ9.cell;go_wp2_with fail;refine (HZ.out _).mono ?_;rintro e nQ ⟨rfl, ic⟩;clear cB;go_wp2_with fail;refine (HN.out _).mono ?_;rintro e w11 ⟨rfl, zY⟩;have iZ := (hI9.below ic).below zY;have Aes := (hS9.trans (Stp.of_below ic)).trans (Stp.of_below zY);clear hI9 ic zY hS9 hJ9;have El := iZ.El;have z12 := iZ.hb.free 12;have s12 := iZ.hb.lt;simp only [hsc] at El;rw [hsz] at Aox;have hfin := Qa (show Fu w o l { Hk with cur := up Hk.cur H.scan (ob.Cn ps), scan := H.scan + Bu ob.size } vo vw vf (w11.setCell ⟨l.h, 12, none⟩ (I Z ((H.scan : Int) + (Bu (3 + ob.AQ.p + ob.AQ.d) : Nat)))) from by
          have e1 : ((H.scan : Int) + (Bu (3 + ob.AQ.p + ob.AQ.d) : Nat)) = ((H.scan + Bu ob.size : Nat) : Int) := by rw [hsz]; omega
          rw [e1];have hb := iZ.hb.set 12 (I Z ((H.scan + Bu ob.size : Nat) : Int));rw [qjz] at hb;exact ⟨bM, f9, o', iZ.FE hb ((Stp.refl _ o' w11).setCell (by exact iZ.oh) _) rfl rfl rfl rfl rfl rfl, iV.out.trans (Aes.setCell (by show zu l (o' l.h); rw [iZ.oh]; exact ⟨rfl, by simp⟩) _)⟩)
        clear iZ Aes hsz;go_wp2_with fail;go_ret;exact ⟨rfl, by rw [HRr.out]; exact hfin.out⟩
def ND (h:AA w o l H vc vo vw vf f)(hm:H.AD=false\/H.scan=H.top) :
  Ab ARt 129 #[Ag (some ⟨l.h,0,none⟩)] w fun e w'=>e=O (.bool false)/\Ae w.1.size w w':=by
 have HM:=xg h;have HD:=po h;rcases hm with hm|hm
 ·rw[hm]at HM
  replace HM:=Qa HM;clear h hm HD;go_enter func129,ntmps129;go_wp2_with fail;refine HM.out.mono ?_;rintro e w1 ⟨rfl,rfl⟩;go_wp2_with fail;go_ret;exact⟨rfl,qd _⟩
 ·rw[decide_eq_true hm]at HD
  generalize H.AD=mv at HM;replace HM:=Qa HM;replace HD:=Qa HD;clear h hm
  cases mv
  ·go_enter func129,ntmps129
   go_wp2_with fail;refine HM.out.mono ?_;rintro e w1 ⟨rfl,rfl⟩;go_wp2_with fail;go_ret;exact⟨rfl,qd _⟩
  ·go_enter func129,ntmps129
   go_wp2_with fail;refine HM.out.mono ?_;rintro e w1 ⟨rfl,rfl⟩;go_wp2_with fail;refine HD.out.mono ?_;rintro e w1 ⟨rfl,hb⟩;go_wp2_with fail;go_ret;exact⟨rfl,hb⟩
def KC (h:AA w o l H vc vo vw vf f)(hw:H.wf) :
  Ab ARt 129 #[Ag (some ⟨l.h,0,none⟩)] w fun e w'=>e=O (.bool H.Ba.2)/\Fu w o l H.Ba.1 vo vw vf w':=by
 by_cases hm:H.AD=false\/H.scan=H.top
 ·have e1:H.Ba=(H,false):=by unfold Hp.Ba;rw[if_pos hm]
  rw[e1];exact (ND h hm).mono fun _ _ ⟨a,b⟩=>⟨a,h.Bt b⟩
 ·refine NC h hw ?_ fun e=>hm (.inr e)
  cases hmm:H.AD
  ·exact absurd (.inl hmm) hm
  ·rfl
end
def JD {n:Nat}(h:n<=1099511627776):n+1<=maxLen/\(n+1)*8<=140737488355328:=by
 simp only[maxLen];omega
def T2 (t:Tag):Prop:=t=(1,0)\/t=(2,0)
def Ef:Own:=fun _=>(0,0)
def T2.below {w w':Aa}{o':Own}(h:Stp T2 Ef o' w w'):Ae w.1.size w w':=h.below fun b _ hh=>by rcases hh with hh|hh<;>simp[Ef]at hh
def mix (o o':Own)(n:Nat)(t1 t2:Tag):Own:=fun b=>if b<n then o b else if o' b=(1,0) then t1 else t2
def VV {o o':Own}{n b:Nat}{t1 t2:Tag}(h:b<n):mix o o' n t1 t2 b=o b:=by unfold mix;rw[if_pos h]
def Row.QL {w w':Aa}{o':Own}{e:TypeId}{size k:Nat}{v:Ac}{xs:List Ac}(hs:Stp T2 Ef o' w w')(h:Row w' o' (1,0) e size v k xs)(o:Own)(t1 t2:Tag):Row w' (mix o o' w.1.size t1 t2) t1 e size v k xs:=by
 refine⟨h.own,fun b hb=>?_⟩
 have h1:=h.tag b hb;unfold mix;rw[if_neg,if_pos h1];intro h2;rw[hs.tags b h2]at h1;simp[Ef]at h1
def Row.Uj {w w':Aa}{o':Own}{e:TypeId}{size k:Nat}{v:Ac}{xs:List Ac}(hs:Stp T2 Ef o' w w')(h:Row w' o' (2,0) e size v k xs)(o:Own)(t1 t2:Tag):Row w' (mix o o' w.1.size t1 t2) t2 e size v k xs:=by
 refine⟨h.own,fun b hb=>?_⟩
 have h1:=h.tag b hb;unfold mix;rw[if_neg,if_neg]
 ·rw[h1];simp
 ·intro h2
  rw[hs.tags b h2]at h1;simp[Ef]at h1
def Row.ML {w w':Aa}{o':Own}{e:TypeId}{size k:Nat}{v:Ac}{xs:List Ac}(hs:Stp T2 Ef o' w w')(h:Row w' o' (2,0) e size v k xs):∀ b,v.ownBlock=some b->w.1.size<=b:=fun b hb=>by
 have h1:=h.tag b hb;refine Nat.le_of_not_lt fun h2=>?_
 rw[hs.tags b h2]at h1;simp[Ef]at h1
def qnz (H:Hp)(l:List Nat)(p:Nat):H.stay (l++[p])=H.stay l++(match H.nowAt p with|some q=>[q]|none=>[]):=by
 unfold Hp.stay;rw[List.filterMap_append]
 cases h:H.nowAt p<;>simp[h]
def qnv (H:Hp)(l:List Nat)(p:Nat):H.BQ (l++[p])=H.BQ l++(match H.nowAt p with|some _=>[]|none=>[p]):=by
 unfold Hp.BQ;rw[List.filter_append]
 cases h:H.nowAt p<;>simp[h]
section
variable {w w' : Aa} {o : Own} {l : A7} {H : Hp} {vc vo vw vf : Ac} {f : Nat -> Nat}
def qmh (h:AA w o l H vc vo vw vf f)(hk:H.ok){p:Nat}{ob:Ob}(hp:BK H.old p=some (ob,none)) :
  Ab ARt 181 #[Ag (some ⟨l.a,0,none⟩),I Z p] w fun e w'=>e=O (Aj #[I Z 0,.bool false])/\w=w':=by
 obtain⟨ho,_,_,hl⟩:=SG hk hp;exact JQ h.B6 ((h.BP _ (ku hp)).1 rfl) ho hl
def qmi (h:AA w o l H vc vo vw vf f)(hk:H.ok){p q:Nat}{ob:Ob}(hp:BK H.old p=some (ob,some q)) :
  Ab ARt 181 #[Ag (some ⟨l.a,0,none⟩),I Z p] w fun e w'=>e=O (Aj #[I Z q,.bool true])/\w=w':=by
 obtain⟨ho,_,_,hl⟩:=SG hk hp;have hs:=Ob.AU ho;have hq:=hk.gone _ (ku hp) q rfl;exact qjg h.B6 (by omega) q hq.1 hq.2 ((h.BP _ (ku hp)).2 q rfl)
def si (h:AA w o l H vc vo vw vf f)(hk:H.ok)(ps:List Nat)(hps:ps.length<=1099511627776){v:Ac}(hv:Ints w v ps) :
  Ab ARt 241 #[Ag (some ⟨l.h,0,none⟩),v] w fun e w'=>∃ v1 v2 o',e=O (Aj #[v1,v2]) /\
   Row w' o' (1,0) 3 1 v1 (H.stay ps).length ((H.stay ps).map nv)/\Row w' o' (2,0) 3 1 v2 (H.BQ ps).length ((H.BQ ps).map nv)/\Stp T2 Ef o' w w':=by
 have HI:=Qa h;have HK:=Qa hk;have HV:=Qa (fun w' (hb:Ae w.1.size w w')=>hv.below hb)
 have uL:=Qa hps;obtain⟨va,vcp,rfl⟩:∃ a c,v=.slice a ps.length c:=by
  obtain⟨a',c',e,_⟩:=hv;exact⟨a',c',e⟩
 obtain⟨n,hn⟩:=Ja0 ps.length;have HN:=Qa hn;rw[<-hn]at HV hps ⊢;have xH:(n:Int)<=1099511627776:=by omega
 obtain⟨iI,hi,hsI,bZ,bT⟩:=jh;have hu64:=underlying25;clear h hk hv hps hn;go_enter func241,ntmps241;go_wp2_with fail;go_loopw [4,5,12] (fun a b ix wr=>∃ (k:Nat)(o':Own),ix=I Z k/\k<=n/\Row wr o' (1,0) 3 1 a (H.stay (ps.take k)).length ((H.stay (ps.take k)).map nv)/\Row wr o' (2,0) 3 1 b (H.BQ (ps.take k)).length ((H.BQ (ps.take k)).map nv)/\Stp T2 Ef o' w wr) (fun _ _ ix _=>n-(intOf ix).toNat)
 case atStart=>exact⟨0,Ef,rfl,by omega,Row.nil _ _ _ _ _,Row.nil _ _ _ _ _,Stp.refl _ _ _⟩
 case round =>
  obtain⟨k,o',rfl,hkn,hr1,hr2,hS⟩:=hrel;by_cases hlt:k<n
  ·have gT:(k:Int)<(n:Int):=by omega
   have Aoh:(k:Int)<1099511627776:=by omega
   obtain⟨x,hx⟩:∃ x,ps[k]?=some x:=⟨_,Qb (by rw[<-HN.out];omega)⟩
   have htk:=kh hx;have hbr:=T2.below hS;have hst:=qnz H (ps.take k) x;have hgn:=qnv H (ps.take k) x;rw[<-htk]at hst hgn;have hsl:=vy H (ps.take k);have htl:(ps.take k).length=k:=by rw[Qp,<-HN.out];omega
   have zQ:=bi (HI.out.below hbr) HK.out x;rcases (HV.out wr hbr).form with ⟨e1,_⟩|⟨g,off,c,e1,hnc,hcm,hg,hcell⟩
   ·rw[e1]at hx;simp at hx
   ·injection e1 with e1 e2 e3
    subst e1 e3;clear e2;have cx:wr.cell? ⟨g,off+k,none⟩=some (I Z x):=hcell k x hx;have hlen1:(H.stay (ps.take k)).length<=1099511627776/\(H.BQ (ps.take k)).length<=1099511627776:=by have:=uL.out;have:=HN.out;omega
    obtain⟨hlen1,mQ⟩:=hlen1;have uG:=Qa (JD hlen1);have HL2:=Qa (JD mQ);have HS:=Qa hS;have HR1:=Qa hr1;have HR2:=Qa hr2;obtain⟨jQ,gP,rfl⟩:=hr1.AS;obtain⟨wH,cp2,rfl⟩:=hr2.AS;unfold Hp.nowAt at hst hgn;clear hcell hsl htl htk hS hr1 hr2 hlen1 mQ
    cases ho:BK H.old x with
    | none =>
     rw[ho]at zQ hst hgn;have kC:=Qa zQ;have tO:=Qa hst;have HGn:=Qa hgn;clear zQ hst hgn ho hx;go_wp2_with fail;refine kC.out.mono ?_;rintro e w3 ⟨rfl,hb3⟩;go_wp2_with (first|(at_builtin;refine qi _ rfl _ _ _ rfl 3 iI _ 1 8 hu64 hi bT hsI bZ rfl (by decide) o' (1,0) _ _ _ rfl (Row.below (Row.below HR1.out hb3) (qc (qd w3) _)) ⟨w3.1.size,0,none⟩ 1 1 [I Z x] rfl rfl (zj (Al.new w3 _ _)) ka uG.out.1 uG.out.2 ?_;intro v' w8 hown hst;obtain⟨pa8,cp8,rfl⟩:=hown.AS)|fail)
     have dB:Stp T2 Ef o' w (w3.alloc (.cells #[I Z x] 3)):=(HS.out.trans (Stp.of_below hb3)).trans (Stp.of_below (qc (qd w3) _));have hS8:=dB.trans (hst.mono fun _ e=>Or.inl e);have hR2:=(Row.below (Row.below HR2.out hb3) (qc (qd w3) (.cells #[I Z x] 3))).Ao hst (by simp)
     go_roundw
     case rel=>exact⟨k+1,_,by simp,by omega,by rw[tO.out,Qd,vx];exact hown,by rw[HGn.out];simpa using hR2,hS8⟩
     case measure=>simp[intOf];omega
    | some z =>
     obtain⟨ob,gq⟩:=z;rw[ho]at zQ hst hgn;have kC:=Qa zQ;have tO:=Qa hst;have HGn:=Qa hgn;have HC0:=Qa (fun w4 (hb:Ae w.1.size w w4)=>(HI.out.below hb).c0)
     cases gq with
     | none =>
      have xX:=Qa (fun w4 (hb:Ae w.1.size w w4)=>qmh (HI.out.below hb) HK.out ho);clear zQ hst hgn ho hx;go_wp2_with fail;refine kC.out.mono ?_;rintro e w3 ⟨rfl,hb3⟩;have c0:=HC0.out _ (qe hbr hb3);go_wp2_with fail;refine (xX.out _ (qe hbr hb3)).mono ?_;rintro e w4 ⟨rfl,rfl⟩;clear c0;go_wp2_with (first|(at_builtin;refine qi _ rfl _ _ _ rfl 3 iI _ 1 8 hu64 hi bT hsI bZ rfl (by decide) o' (2,0) _ _ _ rfl (Row.below (Row.below HR2.out hb3) (qc (qd w3) _)) ⟨w3.1.size,0,none⟩ 1 1 [I Z x] rfl rfl (zj (Al.new w3 _ _)) ka HL2.out.1 HL2.out.2 ?_;intro v' w8 hown hst;obtain⟨pa8,cp8,rfl⟩:=hown.AS)|fail)
      have dB:Stp T2 Ef o' w (w3.alloc (.cells #[I Z x] 3)):=(HS.out.trans (Stp.of_below hb3)).trans (Stp.of_below (qc (qd w3) _));have hS8:=dB.trans (hst.mono fun _ e=>Or.inr e);have zL:=(Row.below (Row.below HR1.out hb3) (qc (qd w3) (.cells #[I Z x] 3))).Ao hst (by simp)
      go_roundw
      case rel=>exact⟨k+1,_,by simp,by omega,by rw[tO.out];simpa using zL,by rw[HGn.out,Qd,vx];exact hown,hS8⟩
      case measure=>simp[intOf];omega
     | some q =>
      have xX:=Qa (fun w4 (hb:Ae w.1.size w w4)=>qmi (HI.out.below hb) HK.out ho);clear zQ hst hgn ho hx;go_wp2_with fail;refine kC.out.mono ?_;rintro e w3 ⟨rfl,hb3⟩;have c0:=HC0.out _ (qe hbr hb3);go_wp2_with fail;refine (xX.out _ (qe hbr hb3)).mono ?_;rintro e w4 ⟨rfl,rfl⟩;clear c0;go_wp2_with (first|(at_builtin;refine qi _ rfl _ _ _ rfl 3 iI _ 1 8 hu64 hi bT hsI bZ rfl (by decide) o' (1,0) _ _ _ rfl (Row.below (Row.below HR1.out hb3) (qc (qd w3) _)) ⟨w3.1.size,0,none⟩ 1 1 [I Z q] rfl rfl (zj (Al.new w3 _ _)) ka uG.out.1 uG.out.2 ?_;intro v' w8 hown hst;obtain⟨pa8,cp8,rfl⟩:=hown.AS)|fail)
      have dB:Stp T2 Ef o' w (w3.alloc (.cells #[I Z q] 3)):=(HS.out.trans (Stp.of_below hb3)).trans (Stp.of_below (qc (qd w3) _));have hS8:=dB.trans (hst.mono fun _ e=>Or.inl e);have hR2:=(Row.below (Row.below HR2.out hb3) (qc (qd w3) (.cells #[I Z q] 3))).Ao hst (by simp)
      go_roundw
      case rel=>exact⟨k+1,_,by simp,by omega,by rw[tO.out,Qd,vx];exact hown,by rw[HGn.out];simpa using hR2,hS8⟩
      case measure=>simp[intOf];omega
  ·obtain rfl:k=n:=by omega
   rw[HN.out,Ad]at hr1 hr2;go_wp2_with fail;go_ret2;exact⟨_,_,o',rfl,hr1,hr2,hS⟩
end
section
variable {w w' : Aa} {o : Own} {l : A7} {H : Hp} {vc vo vw vf : Ac} {f : Nat -> Nat}
def qin (H:Hp)(a:Nat)(vc vo vw vf v:Ac)(ps:List Nat):(H.cells a vc vo vw vf).setIfInBounds 15 v={ H with final:=ps }.cells a vc vo vw v:=by
 unfold Hp.cells;cases H.use<;>rfl
def qjp (H:Hp)(a:Nat)(vc vo vw vf v:Ac)(ps:List Nat):(H.cells a vc vo vw vf).setIfInBounds 14 v={ H with Az:=ps }.cells a vc vo v vf:=by
 unfold Hp.cells;cases H.use<;>rfl
def AA.EJ (h:AA w o l H vc vo vw vf f){v:Ac}{ps:List Nat}(hr:Row w o (l.id,6) 3 1 v ps.length (ps.map nv)):AA (w.setCell ⟨l.h,15,none⟩ v) o l { H with final:=ps } vc vo vw v f:=by
 have hs:=(Stp.refl (fun t=>t=(l.id,0)) o w).setCell (a:=⟨l.h,15,none⟩) h.oh v
 have hn:∀ j,j≠0->¬(l.id,j)=(l.id,0):=fun j hj e=>hj (by simpa using e)
 have hb:=h.hb.set 15 v;rw[qin _ _ _ _ _ _ _ ps]at hb;exact⟨hb,h.B6.Ao hs (by rw[h.oa];exact hn _ (by omega)) (by rw[h.ow];exact hn _ (by omega)),h.rc.Ao hs (hn _ (by split<;>omega)),h.ro.Ao hs (hn _ (by split<;>omega)),h.rw.Ao hs (hn _ (by omega)),hr.Ao hs (hn _ (by omega)),h.oh,h.oa,h.ow,h.E0,h.BP⟩
def AA.NF (h:AA w o l H vc vo vw vf f){v:Ac}{ps:List Nat}(hr:Row w o (l.id,5) 3 1 v ps.length (ps.map nv)):AA (w.setCell ⟨l.h,14,none⟩ v) o l { H with Az:=ps } vc vo v vf f:=by
 have hs:=(Stp.refl (fun t=>t=(l.id,0)) o w).setCell (a:=⟨l.h,14,none⟩) h.oh v
 have hn:∀ j,j≠0->¬(l.id,j)=(l.id,0):=fun j hj e=>hj (by simpa using e)
 have hb:=h.hb.set 14 v;rw[qjp _ _ _ _ _ _ _ ps]at hb;exact⟨hb,h.B6.Ao hs (by rw[h.oa];exact hn _ (by omega)) (by rw[h.ow];exact hn _ (by omega)),h.rc.Ao hs (hn _ (by split<;>omega)),h.ro.Ao hs (hn _ (by split<;>omega)),hr.Ao hs (hn _ (by omega)),h.rf.Ao hs (hn _ (by omega)),h.oh,h.oa,h.ow,h.E0,h.BP⟩
def AA.Lq (h:AA w o l H vc vo vw vf f):w.cell? ⟨l.h,14,none⟩=some vw:=by rw[h.hb.cell];unfold Hp.cells;split<;>rfl
def AA.EU (h:AA w o l H vc vo vw vf f):w.cell? ⟨l.h,15,none⟩=some vf:=by rw[h.hb.cell];unfold Hp.cells;split<;>rfl
def TQ (w:Aa)(o:Own)(l:A7)(H':Hp)(ps:List Nat)(vo vw:Ac)(e:Ending)(w':Aa):Prop:=
 ∃ v bM eZ f' o',e=O v/\AA w' o' l H' bM vo vw eZ f'/\Stp (zu l) o o' w w'/\Row w' o' (CY l) 3 1 v ps.length (ps.map nv)
def qn7 (h:AA w o l H vc vo vw vf f)(hw:H.wf)(hm:H.AD=true) :
  Ab ARt 189 #[Ag (some ⟨l.h,0,none⟩)] w (TQ w o l H.A8.1 H.A8.2 vo vw):=by
 have e0:H.A8=Hp.Ax { H with final:=H.stay H.final } (H.BQ H.final):=by unfold Hp.A8;rw[hm];simp
 rw[e0];have hsl:=vy H H.final;have hfl:=hw.fl;have hse:=hw.ok.Cw;have hw1:Hp.wf { H with final:=H.stay H.final }:=Wu hw (by omega)
 have HM:=xg h;rw[hm]at HM;replace HM:=Qa HM;have HS:=Qa (si h hw.ok H.final (by omega) (by exact h.rf.ints))
 have HI:=Qa h;have EU:=h.EU;generalize hps:H.BQ H.final=ps at *;generalize hst:H.stay H.final=st at *;have oQ:ps.length<=1099511627776:=by omega
 obtain⟨H1,hH1⟩:∃ H1:Hp,H1={ H with final:=st }:=⟨_,rfl⟩;have HH1:=Qa hH1;rw[<-hH1]at hw1 ⊢;have HW:=Qa hw1;obtain⟨n,hn⟩:=Ja0 ps.length;have HN:=Qa hn;rw[<-hn]at oQ;have xH:(n:Int)<=1099511627776:=by omega
 clear h hw hm hsl hfl hse hw1 hps hst hH1 hn e0;go_enter func189,ntmps189;go_wp2_with fail;refine HM.out.mono ?_
 rintro e w1 ⟨rfl,rfl⟩
 go_wp2_with fail;refine HS.out.mono ?_
 rintro e w1 ⟨v1,v2,o',rfl,hr1,hr2,hs1⟩
 have hb1:=T2.below hs1;have hge:=Row.ML hs1 hr2;have hr1:=hr1.QL hs1 o (l.id,6) (CY l);have hr2:=hr2.Uj hs1 o (l.id,6) (CY l);obtain⟨o1,ho1⟩:=Ja0 (mix o o' w.1.size (l.id,6) (CY l));rw[<-ho1]at hr1 hr2;have ht1:∀ b,b<w.1.size->o1 b=o b:=fun b hb=>by rw[ho1];exact VV hb
 have hI1:AA w1 o1 l H vc vo vw vf f:=(HI.out.retag ht1).below hb1;have hS1:Stp (zu l) o o1 w w1:=⟨hb1.os,hb1.tape,hb1.output,hb1.size,ht1,fun b hb _=>hb1.block b hb⟩
 clear ho1 hs1 ht1 EU;have EU:=hI1.EU;have z15:=hI1.hb.free 15;have s15:=hI1.hb.lt;obtain⟨pa,cp,rfl⟩:=hr2.AS;obtain⟨jQ,gP,rfl⟩:=hr1.AS;go_upto_region 5 with fail;obtain⟨W,hW⟩:=Ja0 (w1.setCell ⟨l.h,15,none⟩ (.slice jQ st.length gP));have hIW:AA W o1 l H1 vc vo vw (.slice jQ st.length gP) f:=by rw[hW,HH1.out];exact hI1.EJ hr1
 have hs0:Stp (fun t=>t=(l.id,0)) o1 o1 w1 W:=by rw[hW];exact (Stp.refl _ o1 w1).setCell hI1.oh _
 have hSW:Stp (zu l) o o1 w W:=hS1.trans (hs0.mono (by rintro _ rfl;exact⟨rfl,by simp⟩))
 have hrW:=hr2.Ao hs0 (by simp)
 rw[<-hW];rw[<-HN.out]at hrW hge ⊢;have Agk:Row W o1 (CY l) 3 1 (.slice pa n cp) n (((H1.Ax (ps.take 0)).2++ps.drop 0).map nv):=by simpa [Hp.Ax] using hrW
 have HGe:=Qa hge;clear hW hs0 hr1 hr2 hI1 hS1 hb1 EU z15 s15 hrW hge;go_wp2_with fail;go_loopw [25] (fun ix wr=>∃ (k:Nat)(bM:Ac)(f':Nat->Nat)(o':Own),ix=I Z k/\k<=n/\AA wr o' l (H1.Ax (ps.take k)).1 bM vo vw (.slice jQ st.length gP) f'/\Stp (zu l) o o' w wr/\Row wr o' (CY l) 3 1 (.slice pa n cp) n (((H1.Ax (ps.take k)).2++ps.drop k).map nv)) (fun ix _=>n-(intOf ix).toNat)
 case atStart=>exact⟨0,vc,f,o1,rfl,by omega,hIW,hSW,Agk⟩
 case round =>
  obtain⟨k,bM,f',o',rfl,hkn,hI,hS,hR⟩:=hrel;clear hIW hSW Agk;by_cases hlt:k<n
  ·have gT:(k:Int)<(n:Int):=by omega
   have hk8:(k:Int)<1099511627776:=by omega
   obtain⟨x,hx⟩:∃ x,ps[k]?=some x:=⟨_,Qb (by rw[<-HN.out];omega)⟩
   have htk:=kh hx;have FE:ps.drop k=x::ps.drop (k+1):=by
    obtain⟨h1,h2⟩:=(Qc.1 hx);rw[<-h2];exact aa h1
   have hwk:=(Hp.BU (ps.take k) HW.out).ok;have hsn:=pg (ps.take k) x H1;rw[<-htk]at hsn;have hlen:(H1.Ax (ps.take k)).2.length=k:=by rw[wa,Qp,<-HN.out];omega
   have pY:=Qa hsn;rw[FE]at hR;generalize H1.Ax (ps.take k)=r at *;obtain⟨Hk,lk'⟩:=r;simp only at hI hR hwk hlen pY;rcases hR.shape with ⟨_,h0⟩|⟨g,c,e1,hnc,hcm⟩
   ·omega
   ·injection e1 with e1 _ e3
    subst e1 e3;have BF:(lk'++x::ps.drop (k+1)).set k (Hk.AB x).2=(lk'++[(Hk.AB x).2])++ps.drop (k+1):=by
     have:=set_mid lk' (ps.drop (k+1)) x (Hk.AB x).2;rwa [hlen]at this
    have cx:wr.cell? ⟨g,k,none⟩=some (I Z x):=by
     refine hR.cells k _ ?_;rw[Qj,Ql (by omega),hlen];simp[nv]
    have yM:=Qa (bf hI hwk x);have yS:=Qa BF;have kY:=Qa hS;have HR:=Qa hR;have hgl:=hR.blt;clear hsn FE htk BF hwk hlen hx hI hS hR;go_wp2_with fail;refine yM.out.mono ?_;rintro e w7 ⟨rfl,vc7,f7,o7,hI7,oH⟩;have kE:=HR.out.Ao oH (SL l);have z7:=kE.free k;have s7:=kE.blt;obtain⟨u7,c7⟩:∃ u,w7.cell? ⟨g,k,none⟩=some u:=by
     have h1:k<(ai nv (lk'++x::ps.drop (k+1))).length:=by rw[kE.len];omega
     exact⟨_,kE.cells k _ (Qb h1)⟩
    have hfin:=Qa (show ∃ (bM:Ac)(f':Nat->Nat)(o':Own),AA (w7.setCell ⟨g,k,none⟩ (I Z (Hk.AB x).2)) o' l (H1.Ax (ps.take (k+1))).1 bM vo vw (.slice jQ st.length gP) f'/\Stp (zu l) o o' w (w7.setCell ⟨g,k,none⟩ (I Z (Hk.AB x).2))/\Row (w7.setCell ⟨g,k,none⟩ (I Z (Hk.AB x).2)) o' (CY l) 3 1 (Ah (some ⟨g,0,none⟩) n cp) n (((H1.Ax (ps.take (k+1))).2++ps.drop (k+1)).map nv) from by
     rw[pY.out];refine⟨vc7,f7,o7,hI7.boxed kE.CZ _,?_,?_⟩
     ·exact (kY.out.trans oH).setCell_new (HGe.out g rfl) _
     ·have:=kE.M3 k (I Z (Hk.AB x).2)
      rw[show (Value.int IntKind.i64 ((Hk.AB x).2:Nat))=nv (Hk.AB x).2 from rfl,<-ag,yS.out]at this;exact this)
    clear kE oH hI7;go_wp2_with fail;obtain⟨vc8,f8,o8,g1,g2,g3⟩:=hfin.out;go_roundw
    case rel=>exact⟨k+1,vc8,f8,o8,by simp,by omega,g1,g2,g3⟩
    case measure=>simp[intOf];omega
  ·obtain rfl:k=n:=by omega
   have hfin:=Qa (show TQ w o l (H1.Ax ps).1 (H1.Ax ps).2 vo vw (O (.slice pa k cp)) wr from by
    rw[HN.out,Ad]at hI;rw[HN.out,Ad,af,Ai,<-HN.out]at hR;exact⟨_,bM,_,f',o',rfl,hI,hS,by rw[wa,<-HN.out];exact hR⟩)
   clear hI hS hR;go_wp2_with fail;go_ret;exact hfin.out
def qlc (h:AA w o l H vc vo vw vf f)(hw:H.wf) :
  Ab ARt 189 #[Ag (some ⟨l.h,0,none⟩)] w (TQ w o l H.A8.1 H.A8.2 vo vw):=by
 cases hm:H.AD with
 | true=>exact qn7 h hw hm
 | false =>
  have e0:H.A8=(H,[]):=by unfold Hp.A8;rw[hm];simp
  rw[e0];have HM:=xg h;rw[hm]at HM;replace HM:=Qa HM;have hfin:=Qa (show TQ w o l H [] vo vw (O (Ah none 0 0)) w from ⟨_,vc,vf,f,o,rfl,h,Stp.refl _ _ _,Row.nil _ _ _ _ _⟩);clear h hw hm e0;go_enter func189,ntmps189;go_wp2_with fail;refine HM.out.mono ?_;rintro e w1 ⟨rfl,rfl⟩;go_wp2_with fail;go_ret;exact hfin.out
end
def solo (v:Ac):Own:=fun b=>if v.ownBlock=some b then (1,0) else (0,0)
def Row.solo {w:Aa}{o:Own}{t:Tag}{e:TypeId}{size n:Nat}{v:Ac}{xs:List Ac}(h:Row w o t e size v n xs):Row w (solo v) (1,0) e size v n xs:=
 ⟨h.own,fun k hk=>by unfold Go.Proofs.YteehgedabdchcaaGreat.solo;rw[if_pos hk]⟩
def Row.Q3 {w wr w8:Aa}{o o':Own}{T:Tag->Prop}{tg:Tag}{e:TypeId}{size n n':Nat}{v v':Ac}{xs xs':List Ac}(hr:Row wr o' tg e size v n xs)
  (hown:Row w8 (ext (Go.Proofs.YteehgedabdchcaaGreat.solo v) wr.1.size (1,0)) (1,0) e size v' n' xs')(hst:Stp (fun t=>t=(1,0)) (Go.Proofs.YteehgedabdchcaaGreat.solo v) (ext (Go.Proofs.YteehgedabdchcaaGreat.solo v) wr.1.size (1,0)) wr w8)
  (hS:Stp T o o' w wr)(hge:∀ b,v.ownBlock=some b->w.1.size<=b) :
  Row w8 (ext o' wr.1.size tg) tg e size v' n' xs'/\Stp (fun t=>t=tg) o' (ext o' wr.1.size tg) wr w8/\Stp T o (ext o' wr.1.size tg) w w8/\∀ b,v'.ownBlock=some b->w.1.size<=b:=by
 have h0:∀ k,v'.ownBlock=some k->k<wr.1.size->v.ownBlock=some k:=fun k hk hlt=>by
  have h1:=hown.tag k hk;rw[qr hlt]at h1;unfold Go.Proofs.YteehgedabdchcaaGreat.solo at h1;split at h1
  ·assumption
  ·simp at h1
 have hbl:∀ b,b<wr.1.size->v.ownBlock≠some b->w8.heap[b]?=wr.heap[b]?:=fun b hb hn=>hst.block b hb (by unfold Go.Proofs.YteehgedabdchcaaGreat.solo;rw[if_neg hn];simp)
 refine⟨⟨hown.own,fun k hk=>?_⟩,⟨hst.os,hst.tape,hst.output,hst.size,fun b hb=>qr hb,fun b hb hn=>hbl b hb fun h=>hn (hr.tag b h)⟩,⟨hst.os.trans hS.os,hst.tape.trans hS.tape,hst.output.trans hS.output,Qo hS.size hst.size,fun b hb=>(qr (Qn hb hS.size)).trans (hS.tags b hb),fun b hb hn=>?_⟩,fun b hb=>?_⟩
 ·rcases Nat.lt_or_ge k wr.1.size with h|h
  ·rw[qr h];exact hr.tag k (h0 k hk h)
  ·exact qz h
 ·refine (hbl b (Qn hb hS.size) fun h=>?_).trans (hS.block b hb hn)
  have:=hge b h;omega
 ·rcases Nat.lt_or_ge b wr.1.size with h|h
  ·exact hge b (h0 b hb h)
  ·exact Qo hS.size h
def WO:∀ (l:List Nat)(p:Nat)(H:Hp),H.AZ (l++[p])=(((H.AZ l).1.drop1 p).1,(H.AZ l).2++((H.AZ l).1.drop1 p).2)
 | [],p,H=>by show ((H.drop1 p).1,(H.drop1 p).2++[])=((H.drop1 p).1,[]++(H.drop1 p).2);simp
 | q::l,p,H=>by
  have:=WO l p (H.drop1 q).1;show ((((H.drop1 q).1.AZ (l++[p])).1,(H.drop1 q).2++((H.drop1 q).1.AZ (l++[p])).2):Hp×List Nat)=(((((H.drop1 q).1.AZ l).1.drop1 p)).1,((H.drop1 q).2++((H.drop1 q).1.AZ l).2)++(((H.drop1 q).1.AZ l).1.drop1 p).2);rw[this,List.append_assoc]
def qov (H:Hp)(p:Nat):(H.drop1 p).2.length<=1:=by
 unfold Hp.drop1
 (repeat' split)<;>simp
def bz:∀ (l:List Nat)(H:Hp),(H.AZ l).2.length<=l.length
 | [],_=>Qk _
 | p::l,H=>by
  have h1:=qov H p;have h2:=bz l (H.drop1 p).1;show ((H.drop1 p).2++((H.drop1 p).1.AZ l).2).length<=l.length+1;rw[Qd];omega
section
variable {w w' : Aa} {o : Own} {l : A7} {H : Hp} {vc vo vw vf : Ac} {f : Nat -> Nat}
def AA.Ug {o':Own}(h:AA w o l H vc vo vw vf f)(hs:Stp (fun t=>t=CY l) o o' w w'):AA w' o' l H vc vo vw vf f:=by
 have hn:∀ j,¬(l.id,j)=CY l:=fun j=>by simp
 exact⟨h.hb.Ao hs (by rw[h.oh];exact hn _),h.B6.Ao hs (by rw[h.oa];exact hn _) (by rw[h.ow];exact hn _),h.rc.Ao hs (hn _),h.ro.Ao hs (hn _),h.rw.Ao hs (hn _),h.rf.Ao hs (hn _),
  (hs.tags _ h.hb.lt).trans h.oh,(hs.tags _ h.B6.BM.lt).trans h.oa,(hs.tags _ h.B6.lt).trans h.ow,h.E0,h.BP⟩
def Tf (w:Aa)(o:Own)(l:A7)(H':Hp)(ps:List Nat)(vo vw vf:Ac)(v:Ac)(w':Aa):Prop:=
 ∃ bM f' o',AA w' o' l H' bM vo vw vf f'/\Stp (zu l) o o' w w'/\Row w' o' (CY l) 3 1 v ps.length (ps.map nv)/\∀ b,v.ownBlock=some b->w.1.size<=b
end
section
variable {w w' : Aa} {o : Own} {l : A7} {H : Hp} {vc vo vw vf : Ac} {f : Nat -> Nat}
def AA.Ku (h:AA w o l H vc vo vw vf f){w':Aa}(hb:Al w' l.h (H.rest.cells l.a vc (Ah none 0 0) vw vf) 185)(hs:Stp (fun t=>t=(l.id,0)) o o w w'):AA w' o l H.rest vc (Ah none 0 0) vw vf f:=by
 have hn:∀ j,j≠0->¬(l.id,j)=(l.id,0):=fun j hj e=>hj (by simpa using e)
 exact⟨hb,h.B6.Ao hs (by rw[h.oa];exact hn _ (by omega)) (by rw[h.ow];exact hn _ (by omega)),h.rc.Ao hs (hn _ (by split<;>omega)),Row.nil _ _ _ _ _,h.rw.Ao hs (hn _ (by omega)),h.rf.Ao hs (hn _ (by omega)),h.oh,h.oa,h.ow,h.E0,fun x hx=>(by cases hx)⟩
def fg (w:Aa)(o:Own)(l:A7)(H':Hp)(ps:List Nat)(ok:Bool)(e:Ending)(w':Aa):Prop:=
 ∃ v bM vo' gF eZ f' o',e=O (Aj #[v,.bool ok])/\AA w' o' l H' bM vo' gF eZ f'/\Stp (zu l) o o' w w'/\Row w' o' (CY l) 3 1 v ps.length (ps.map nv)
def LX (h:AA w o l H vc vo vw vf f) (hw:H.wf) (hm:H.AD=true) (hsc:H.scan=H.top) :
  Ab ARt 242 #[Ag (some ⟨l.h,0,none⟩)] w (fg w o l H.drop.1 H.drop.2.1 H.drop.2.2):=by
 have e0:H.drop=((H.settled.AZ H.settled.Az).1.rest,(H.settled.AZ H.settled.Az).2,true):=by unfold Hp.drop;rw[if_neg (by rw[hm,hsc];simp)]
 rw[e0];clear e0;have hsl:=vy H H.Az;have hsl2:=vy H H.final;have hfl:=hw.fl;have hwl:=hw.wl;have hse:=hw.ok.Cw;have hk:=hw.ok;have hw2:=Hp.DT hw;have HM:=xg h;rw[hm]at HM;replace HM:=Qa HM;have HD:=po h;rw[decide_eq_true hsc]at HD;replace HD:=Qa HD;have HI:=Qa h;have iW:=Qa (fun (W:Aa) (o1:Own) (h1:AA W o1 l H vc vo vw vf f)=>si h1 hk H.Az (by omega) h1.rw.ints)
 have HS2:=Qa (fun (W:Aa) (o1:Own) (vw1:Ac) (h1:AA W o1 l { H with Az:=H.stay H.Az } vc vo vw1 vf f)=>si h1 (H:={ H with Az:=H.stay H.Az }) ⟨hk.sz,hk.cl,hk.ck,hk.ol,hk.ok,hk.ot,hk.still,hk.MY,hk.room,hk.Cw,hk.Cd,hk.gone⟩ H.final (by omega) h1.rf.ints)
 have xJ:∀ q,({ H with Az:=H.stay H.Az }:Hp).stay q=H.stay q:=fun q=>rfl
 have xE:∀ q,({ H with Az:=H.stay H.Az }:Hp).BQ q=H.BQ q:=fun q=>rfl
 simp only[xJ,xE]at HS2;have qZ:=Qa (fun p (hp:p ∈ H.stay H.Az)=>VE hw hp)
 obtain⟨st,hst⟩:=Ja0 (H.stay H.Az);obtain⟨sf,hsf⟩:=Ja0 (H.stay H.final);obtain⟨H2,hH2⟩:∃ H2:Hp,H2=H.settled:=⟨_,rfl⟩;have yH:=Qa (show H2={ H with Az:=st,final:=sf } by rw[hH2,hst,hsf];rfl)
 have e1:H2.Az=st:=by rw[hH2,hst];rfl
 have e2:H2.cur=H.cur:=by rw[hH2];rfl
 rw[<-hH2]at hw2 ⊢;rw[e1];rw[<-hst]at iW HS2 qZ hsl;rw[<-hsf]at HS2 hsl2;rw[<-e2]at qZ;have HW:=Qa hw2;have oQ:st.length<=1099511627776:=by omega
 obtain⟨n,hn⟩:=Ja0 st.length;have HN:=Qa hn;rw[<-hn]at oQ;have xH:(n:Int)<=1099511627776:=by omega
 obtain⟨iI,hi,hsI,bZ,bT⟩:=jh;have hu64:=underlying25;clear h hw hm hsc hsl hsl2 hfl hwl hse hk hw2 xJ xE hst hsf hH2 hn e1 e2;go_enter func242,ntmps242;go_wp2_with fail;refine HM.out.mono ?_
 rintro e w1 ⟨rfl,rfl⟩
 go_wp2_with fail;refine HD.out.mono ?_
 rintro e w1 ⟨rfl,hb1⟩
 have hI0:=HI.out.below hb1;have Lq:=hI0.Lq;have HI0:=Qa hI0;clear hI0;go_wp2_with fail;refine (iW.out _ _ HI0.out).mono ?_
 rintro e w2 ⟨v1,v2,o',rfl,hr1,_,hs1⟩
 have hb2:=T2.below hs1;have hr1:=hr1.QL hs1 o (l.id,5) (CY l);obtain⟨o1,ho1⟩:=Ja0 (mix o o' w1.1.size (l.id,5) (CY l));rw[<-ho1]at hr1;have ht1:∀ b,b<w1.1.size->o1 b=o b:=fun b hb=>by rw[ho1];exact VV hb
 have hI1:AA w2 o1 l H vc vo vw vf f:=(HI0.out.retag ht1).below hb2;have hS1:Stp (zu l) o o1 w w2:=(Stp.of_below hb1).trans ⟨hb2.os,hb2.tape,hb2.output,hb2.size,ht1,fun b hb _=>hb2.block b hb⟩
 clear ho1 hs1 ht1 Lq hb2;have Lq:=hI1.Lq;have z14:=hI1.hb.free 14;have s14:=hI1.hb.lt;obtain⟨pa,cp,rfl⟩:=hr1.AS;rw[<-HN.out]at hr1 ⊢;go_upto_region 4 with fail;obtain⟨W,hW⟩:=Ja0 (w2.setCell ⟨l.h,14,none⟩ (.slice pa n cp));rw[HN.out]at hr1;have hIW:AA W o1 l { H with Az:=st } vc vo (.slice pa n cp) vf f:=by rw[hW];rw[<-HN.out]at hr1;exact hI1.NF (by rw[<-HN.out];exact hr1)
 have hSW:Stp (zu l) o o1 w W:=by rw[hW];exact hS1.setCell (by show zu l (o1 l.h);rw[hI1.oh];exact⟨rfl,by simp⟩) _
 rw[<-hW];clear hW hr1 hI1 hS1 Lq z14 s14 hb1;have EU:=hIW.EU;have HIW:=Qa hIW;clear hIW;go_wp2_with fail;refine (HS2.out _ _ _ HIW.out).mono ?_
 rintro e w3 ⟨v3,v4,o'',rfl,hr3,_,hs3⟩
 have hb3:=T2.below hs3;have hr3:=hr3.QL hs3 o1 (l.id,6) (CY l);obtain⟨o3,ho3⟩:=Ja0 (mix o1 o'' W.1.size (l.id,6) (CY l));rw[<-ho3]at hr3;have ht3:∀ b,b<W.1.size->o3 b=o1 b:=fun b hb=>by rw[ho3];exact VV hb
 have hI3:AA w3 o3 l { H with Az:=st } vc vo (.slice pa n cp) vf f:=(HIW.out.retag ht3).below hb3;have dB:Stp (zu l) o o3 w w3:=hSW.trans ⟨hb3.os,hb3.tape,hb3.output,hb3.size,ht3,fun b hb _=>hb3.block b hb⟩
 clear ho3 hs3 ht3 EU hb3 hSW;have EU:=hI3.EU;have z15:=hI3.hb.free 15;have s15:=hI3.hb.lt;obtain⟨pa3,cp3,rfl⟩:=hr3.AS;obtain⟨v3,hv3⟩:=Ja0 (Value.slice pa3 sf.length cp3);have uQ:=Qa hv3;go_upto_region 5 with fail;obtain⟨W4,eD⟩:=Ja0 (w3.setCell ⟨l.h,15,none⟩ v3);have hI4:AA W4 o3 l H2 vc vo (.slice pa n cp) v3 f:=by rw[eD,yH.out,uQ.out];exact hI3.EJ hr3
 have dR:Stp (zu l) o o3 w W4:=by rw[eD];exact dB.setCell (by show zu l (o3 l.h);rw[hI3.oh];exact⟨rfl,by simp⟩) _
 rw[<-hv3,<-eD];clear eD hv3 hr3 hI3 dB EU z15 s15;have Lq:=hI4.Lq;have hD4:Tf w o l (H2.AZ (st.take 0)).1 (H2.AZ (st.take 0)).2 vo (.slice pa n cp) v3 (Ah none 0 0) W4:=⟨vc,f,o3,hI4,dR,Row.nil _ _ _ _ _,fun b hb=>by simp[Value.ownBlock]at hb⟩
 clear hI4 dR;go_wp2_with fail;clear Lq;go_loopw [4,51] (fun v ix wr=>∃ k:Nat,ix=I Z k/\k<=n/\Tf w o l (H2.AZ (st.take k)).1 (H2.AZ (st.take k)).2 vo (.slice pa n cp) v3 v wr) (fun _ ix _=>n-(intOf ix).toNat)
 case atStart=>exact⟨0,rfl,by omega,hD4⟩
 case round =>
  obtain⟨k,rfl,hkn,bM,f',o',hI,hS,hR,hG⟩:=hrel;clear hD4;by_cases hlt:k<n
  ·have gT:(k:Int)<(n:Int):=by omega
   have Aoh:(k:Int)<1099511627776:=by omega
   obtain⟨x,hx⟩:∃ x,st[k]?=some x:=⟨_,Qb (by rw[<-HN.out];omega)⟩
   have htk:=kh hx;have hwk:=Hp.Dh (st.take k) HW.out;have hsn:=WO (st.take k) x H2;rw[<-htk]at hsn;have hll:=bz (st.take k) H2;obtain⟨ob,eQ,hp1⟩:=dr (st.take k) (qZ.out x (Qe hx));have hsw:(H2.AZ (st.take k)).1.Az=st:=by rw[(ld _ _).2.1,yH.out]
   have htl:(st.take k).length=k:=by rw[Qp,<-HN.out];omega
   have pY:=Qa hsn;generalize H2.AZ (st.take k)=r at *;obtain⟨Hk,ls⟩:=r;simp only at hI hR hwk hll eQ pY hsw;have mU:ls.length<=1099511627776:=by omega
   have HL:=Qa (JD mU);have hrw:=hI.rw;rw[hsw,<-HN.out]at hrw;rcases hrw.shape with ⟨_,h0⟩|⟨g,c,e1,hnc,hcm⟩
   ·omega
   ·injection e1 with e1 _ e3
    subst e1 e3;have cx:wr.cell? ⟨g,k,none⟩=some (I Z x):=hrw.cells k _ (by rw[Qj,hx];rfl)
    have ho:=hwk.EZ eQ;obtain⟨y,hy⟩:∃ y,ob.Bc[0]?=some y:=⟨_,Qb (by rw[ho.lp];omega)⟩
    obtain⟨ha,_,hl,_⟩:=hI.at_ hwk.ok eQ;have HPt:=Qa (UT hI.B6 ha ho hl 0 y hy x 0 rfl rfl);have HC0:=Qa (fun w4 (hb:Ae wr.1.size wr w4)=>(hI.below hb).c0);have kC:=fun w4 (hb:Ae wr.1.size wr w4)=>bi (hI.below hb) hwk.ok y;have c0:=hI.c0;obtain⟨pl,cl,rfl⟩:=hR.AS;have lG:Hk.drop1 x=match BK Hk.old y with|none=>(Hk,[])|some (_,some q)=>({ Hk with cur:=up Hk.cur x (ob.Bm 0 q) },[])|some (_,none)=>({ Hk with cur:=up Hk.cur x (ob.Bm 0 0) },[ob.Aw]):=by
     unfold Hp.drop1;rw[eQ];simp only;rw[hy];rfl
    have sQ:=Qa hI;have kY:=Qa hS;have HRR:=Qa hR;have HGG:=Qa hG;have HWK:=Qa hwk;have HOB:=Qa eQ;have HSz:=Qa (show 0<ob.AQ.p from hp1)
    cases hlo:BK Hk.old y with
    | none =>
     rw[hlo]at lG kC;have kC:=Qa kC;have uN:=Qa lG;clear hsn htk hwk hll eQ hp1 hsw htl hI hS hR hG hrw ho hy ha hl hx lG hlo mU;go_wp2_with fail;refine HPt.out.mono ?_;rintro e w5 ⟨rfl,hb5⟩;go_wp2_with fail;refine (kC.out _ hb5).mono ?_;rintro e w6 ⟨rfl,hb6⟩;have hb:=qe hb5 hb6;go_wp2_with fail;go_roundw
     case rel=>exact⟨k+1,by simp,by omega,by rw[pY.out,uN.out];simp only[Ai];exact⟨bM,f',o',sQ.out.below hb,kY.out.trans (Stp.of_below hb),HRR.out.below hb,HGG.out⟩⟩
     case measure=>simp[intOf];omega
    | some z =>
     obtain⟨oo,gq⟩:=z;rw[hlo]at lG kC;have kC:=Qa kC;have uN:=Qa lG
     cases gq with
     | some q =>
      have hq:=hwk.ok.gone _ (ku hlo) q rfl;have xX:=Qa (fun w4 (hb:Ae wr.1.size wr w4)=>qmi (hI.below hb) hwk.ok hlo);have yR:=Qa (fun w4 (hb:Ae wr.1.size wr w4)=>yk (hI.B6.below hb) ha ho hl 0 q hp1 hq.2 x 0 q rfl rfl rfl);have iF:=Qa (fun w4 w5 (hb:Ae wr.1.size wr w4) hT=>(hI.below hb).DX (w':=w5) hwk.ok eQ (k:=3+0) (by unfold Ob.size;omega) hT (by rw[show x+(3+0)=x+3+0 from by omega];exact ha.Bm ho 0 q hp1))
      rw[show x+(3+0)=x+3+0 from by omega]at iF
      clear hsn htk hwk hll eQ hp1 hsw htl hI hS hR hG hrw ho hy ha hl hx lG hlo mU hq;go_wp2_with fail;refine HPt.out.mono ?_;rintro e w5 ⟨rfl,hb5⟩;go_wp2_with fail;refine (kC.out _ hb5).mono ?_;rintro e w6 ⟨rfl,hb6⟩;have hb:=qe hb5 hb6;clear c0;have c0:=HC0.out _ hb;go_wp2_with fail;refine (xX.out _ hb).mono ?_;rintro e w7 ⟨rfl,rfl⟩;go_wp2_with fail;refine (yR.out _ hb).mono ?_;rintro e w8 ⟨rfl,rF⟩;have hfin:=Qa (show Tf w o l (H2.AZ (st.take (k+1))).1 (H2.AZ (st.take (k+1))).2 vo (Ah (some ⟨g,0,none⟩) n cp) v3 (.slice pl ls.length cl) w8 from by
       rw[pY.out,uN.out];simp only[Ai];obtain⟨vc8,f8,o8,h8,s8⟩:=iF.out _ _ hb rF;refine⟨vc8,f8,o8,h8,(kY.out.trans (Stp.of_below hb)).trans s8,(HRR.out.below hb).Ao s8 (SL l),HGG.out⟩)
      clear rF c0;go_wp2_with fail;go_roundw
      case rel=>exact⟨k+1,by simp,by omega,hfin.out⟩
      case measure=>simp[intOf];omega
     | none =>
      have xX:=Qa (fun w4 (hb:Ae wr.1.size wr w4)=>qmh (hI.below hb) hwk.ok hlo);have yR:=Qa (fun w4 (hb:Ae wr.1.size wr w4)=>yk (hI.B6.below hb) ha ho hl 0 0 hp1 (by omega) x 0 0 rfl rfl rfl)
      have iF:=Qa (fun w4 w5 (hb:Ae wr.1.size wr w4) hT=>(hI.below hb).DX (w':=w5) hwk.ok eQ (k:=3+0) (by unfold Ob.size;omega) hT (by rw[show x+(3+0)=x+3+0 from by omega];exact ha.Bm ho 0 0 hp1))
      rw[show x+(3+0)=x+3+0 from by omega]at iF
      have hlk2:lk (up Hk.cur x (ob.Bm 0 0)) x=some (ob.Bm 0 0):=by rw[JF,if_pos rfl,eQ];rfl
      have hw2:=SO hwk eQ (dK:=ob.Bm 0 0) (Ob.Cm ho 0 0 (by omega)) rfl
      have HSr:=Qa (fun w4 vc4 f4 o4 (h4:AA w4 o4 l { Hk with cur:=up Hk.cur x (ob.Bm 0 0) } vc4 vo (Ah (some ⟨g,0,none⟩) n cp) v3 f4)=>show Ab ARt 131 #[Ag (some ⟨l.a,0,none⟩),I Z x] w4 fun e w'=>e=O (Aj #[I Z ob.Aw,I Z 0])/\Ae w4.1.size w4 w' from by
       obtain⟨ha4,ho4,hl4,_⟩:=h4.at_ hw2.ok hlk2;exact WM h4.B6 ha4 ho4 hl4 x rfl)
      clear hsn htk hwk hll eQ hp1 hsw htl hI hS hR hG hrw ho hy ha hl hx lG hlo mU hlk2 hw2;go_wp2_with fail;refine HPt.out.mono ?_;rintro e w5 ⟨rfl,hb5⟩;go_wp2_with fail;refine (kC.out _ hb5).mono ?_;rintro e w6 ⟨rfl,hb6⟩;have hb:=qe hb5 hb6;clear c0;have c0:=HC0.out _ hb;go_wp2_with fail;refine (xX.out _ hb).mono ?_;rintro e w7 ⟨rfl,rfl⟩;go_wp2_with fail;refine (yR.out _ hb).mono ?_;rintro e w8 ⟨rfl,rF⟩;obtain⟨vc8,f8,o8,h8,s8⟩:=iF.out _ _ hb rF;have H8:=Qa h8;have S8:=Qa ((kY.out.trans (Stp.of_below hb)).trans s8);have R8:=Qa ((HRR.out.below hb).Ao s8 (SL l));clear rF c0 s8;have c0:=h8.c0;clear h8;go_wp2_with fail;refine (HSr.out _ _ _ _ H8.out).mono ?_;rintro e w9 ⟨rfl,eX⟩;clear c0;have R9:=Qa (R8.out.below eX).solo;go_wp2_with (first|(at_builtin;refine qi _ rfl _ _ _ rfl 3 iI _ 1 8 hu64 hi bT hsI bZ rfl (by decide) (solo (.slice pl ls.length cl)) (1,0) _ _ _ rfl (Row.below R9.out (qc (qd w9) _)) ⟨w9.1.size,0,none⟩ 1 1 [I Z ob.Aw] rfl rfl (zj (Al.new w9 _ _)) ka HL.out.1 HL.out.2 ?_;intro v' nQ hown hst;obtain⟨pa8,cp8,rfl⟩:=hown.AS)|fail)
      have hfin:=Qa (show Tf w o l (H2.AZ (st.take (k+1))).1 (H2.AZ (st.take (k+1))).2 vo (Ah (some ⟨g,0,none⟩) n cp) v3 (.slice pa8 (ls.length+1) cp8) nQ from by
       rw[pY.out,uN.out];have hB:=qe eX (qc (qd w9) (.cells #[I Z ob.Aw] 3));obtain⟨q1,q2,q3,q4⟩:=Row.Q3 (R8.out.below hB) hown hst (S8.out.trans (Stp.of_below hB)) HGG.out;refine⟨vc8,f8,_,(H8.out.below hB).Ug q2,q3,?_,q4⟩;rw[Qd,vx];exact q1)
      clear hown hst;go_roundw
      case rel=>exact⟨k+1,by simp,by omega,hfin.out⟩
      case measure=>simp[intOf];omega
  ·obtain rfl:k=n:=by omega
   rw[HN.out,Ad]at hI hR;rw[<-HN.out]at hI;have hwk:=(Hp.Dh st HW.out).ok;have hll:=bz st H2;generalize hr:H2.AZ st=r at *;obtain⟨Hk,ls⟩:=r;simp only at hI hR hwk hll;obtain⟨pl,cl,rfl⟩:=hR.AS;have hsz:=hwk.sz;have hol:=bh _ _ _ hwk.ol;have hot:=hwk.ot;have hb0:=Hk.BJ (!Hk.use);clear hr hwk hG hlt;rcases (show Hk.use=false\/Hk.use=true by cases Hk.use<;>simp) with hu|hu
   ·have hb:=hI.DG hu
    have dO:∀ sz tp Cd dE:Nat,sz=Hk.size->tp=Hk.top->Cd=Hk.scan->dE=Hk.Aw->Hk.rest.cells l.a bM (Ah none 0 0) (.slice pa k cp) v3=#[Ag (some ⟨l.a,0,none⟩),I Z 1,I Z sz,I Z tp,I Z (1+(sz:Int)),I Z sz,I Z (1+(sz:Int)),bM,Ah none 0 0,I Z 0,.bool false,I Z 0,I Z Cd,I Z dE,.slice pa k cp,v3]:=fun sz tp Cd dE e1 e2 e3 e4=>by
     subst e1 e2 e3 e4;unfold Hp.cells Hp.rest Hp.base;simp[hu]
    have HE:=(fun W=>gz (b:=Hk.base (!Hk.use)) (s:=Hk.size) (t:=Hk.Bv) ⟨by omega,by omega,by omega,by omega⟩ W)
    unfold CW at HE;rw[show (Hk.base (!Hk.use):Int)=(1+(Hk.size:Int)) from by rw[hu];show ((1+Hk.size:Nat):Int)=_;omega]at HE
    replace HE:=Qa HE;generalize hg1:Hk.size=sz at hb HE dO;generalize hg2:Hk.top=tp at hb dO;generalize hg3:Hk.Bv=eT at hb HE;generalize hg4:Hk.Bh=dG at hb;generalize hg5:Hk.scan=Cd at hb dO;generalize hg6:Hk.Aw=dE at hb dO;generalize hg7:Hk.AD=mv at hb;have HFC:=Qa (dO sz tp Cd dE rfl rfl rfl rfl);have sQ:=Qa hI;have kY:=Qa hS;have HRR:=Qa hR;clear dO hg1 hg2 hg3 hg4 hg5 hg6 hg7 hI hS hR hu;have c:=hb.cell;have z:=hb.free;have s:=hb.lt;go_upto_region 18 with fail;go_cut [] (fun wx=>Al wx l.h #[Ag (some ⟨l.a,0,none⟩),I Z 1,I Z sz,I Z tp,I Z (1+(sz:Int)),I Z sz,I Z (1+(sz:Int)),bM,vo,I Z 0,.bool mv,I Z dG,I Z Cd,I Z dE,.slice pa k cp,v3] 185/\Wr l.h wr wx)
    case first =>
     go_region_with (first|(go_at_call 187;refine (HE.out _).mono ?_;rintro e w4 ⟨rfl,hb4⟩;have j4:=Al.below (qj hb) hb4 (qj hb).lt;have c4:=j4.cell;have z4:=j4.free;have s4:=j4.lt)|fail)
     all_goals
      go_wp2_with fail;go_meet;exact⟨by simpa using ((j4.set 4 _).set 5 _).set 6 _,(((Wr.of_below (qf (qd wr))).trans (Wr.of_below hb4)).trans (Wr.set _ _ _ _)).trans ((Wr.set _ _ _ _).trans (Wr.set _ _ _ _))⟩
    case rest =>
     obtain⟨j2,r2⟩:=hcut;clear c z s hb;have c:=j2.cell;have z:=j2.free;have s:=j2.lt;have hfin:=Qa (show fg w o l Hk.rest ls true (O (Aj #[.slice pl ls.length cl,.bool true])) (((wc.setCell ⟨l.h,8,none⟩ (Ah none 0 0)).setCell ⟨l.h,10,none⟩ (.bool false)).setCell ⟨l.h,11,none⟩ (I Z 0)) from by
      have j3:Al (((wc.setCell ⟨l.h,8,none⟩ (Ah none 0 0)).setCell ⟨l.h,10,none⟩ (.bool false)).setCell ⟨l.h,11,none⟩ (I Z 0)) l.h #[Ag (some ⟨l.a,0,none⟩),I Z 1,I Z sz,I Z tp,I Z (1+(sz:Int)),I Z sz,I Z (1+(sz:Int)),bM,Ah none 0 0,I Z 0,.bool false,I Z 0,I Z Cd,I Z dE,.slice pa k cp,v3] 185:=by simpa using ((j2.set 8 (Ah none 0 0)).set 10 (.bool false)).set 11 (I Z 0)
      rw[<-HFC.out]at j3;have hs:Stp (fun t=>t=(l.id,0)) o' o' wr (((wc.setCell ⟨l.h,8,none⟩ (Ah none 0 0)).setCell ⟨l.h,10,none⟩ (.bool false)).setCell ⟨l.h,11,none⟩ (I Z 0)):=Stp.BE (((r2.trans (Wr.set _ _ _ _)).trans (Wr.set _ _ _ _)).trans (Wr.set _ _ _ _)) sQ.out.oh;exact⟨_,bM,_,_,_,f',o',rfl,sQ.out.Ku j3 hs,kY.out.trans (hs.mono (by rintro _ rfl;exact⟨rfl,by simp⟩)),HRR.out.Ao hs (by simp)⟩)
     clear j2 r2;go_wp2_with fail;go_ret2;exact hfin.out
   ·have hb:=hI.DJ hu
    have dO:∀ sz tp Cd dE:Nat,sz=Hk.size->tp=Hk.top->Cd=Hk.scan->dE=Hk.Aw->Hk.rest.cells l.a bM (Ah none 0 0) (.slice pa k cp) v3=#[Ag (some ⟨l.a,0,none⟩),I Z 1,I Z sz,I Z 1,I Z (1+(sz:Int)),I Z sz,I Z tp,Ah none 0 0,bM,I Z 1,.bool false,I Z 0,I Z Cd,I Z dE,.slice pa k cp,v3]:=fun sz tp Cd dE e1 e2 e3 e4=>by
     subst e1 e2 e3 e4;unfold Hp.cells Hp.rest Hp.base;simp[hu]
    have HE:=(fun W=>gz (b:=Hk.base (!Hk.use)) (s:=Hk.size) (t:=Hk.Bv) ⟨by omega,by omega,by omega,by omega⟩ W)
    unfold CW at HE;rw[show (Hk.base (!Hk.use):Int)=1 from by rw[hu];rfl]at HE
    replace HE:=Qa HE;generalize hg1:Hk.size=sz at hb HE dO;generalize hg2:Hk.top=tp at hb dO;generalize hg3:Hk.Bv=eT at hb HE;generalize hg4:Hk.Bh=dG at hb;generalize hg5:Hk.scan=Cd at hb dO;generalize hg6:Hk.Aw=dE at hb dO;generalize hg7:Hk.AD=mv at hb;have HFC:=Qa (dO sz tp Cd dE rfl rfl rfl rfl);have sQ:=Qa hI;have kY:=Qa hS;have HRR:=Qa hR;clear dO hg1 hg2 hg3 hg4 hg5 hg6 hg7 hI hS hR hu;have c:=hb.cell;have z:=hb.free;have s:=hb.lt;go_upto_region 18 with fail;go_cut [] (fun wx=>Al wx l.h #[Ag (some ⟨l.a,0,none⟩),I Z 1,I Z sz,I Z 1,I Z (1+(sz:Int)),I Z sz,I Z tp,vo,bM,I Z 1,.bool mv,I Z dG,I Z Cd,I Z dE,.slice pa k cp,v3] 185/\Wr l.h wr wx)
    case first =>
     go_region_with (first|(go_at_call 187;refine (HE.out _).mono ?_;rintro e w4 ⟨rfl,hb4⟩;have j4:=Al.below (qj hb) hb4 (qj hb).lt;have c4:=j4.cell;have z4:=j4.free;have s4:=j4.lt)|fail)
     all_goals
      go_wp2_with fail;go_meet;exact⟨by simpa using ((j4.set 1 _).set 2 _).set 3 _,(((Wr.of_below (qf (qd wr))).trans (Wr.of_below hb4)).trans (Wr.set _ _ _ _)).trans ((Wr.set _ _ _ _).trans (Wr.set _ _ _ _))⟩
    case rest =>
     obtain⟨j2,r2⟩:=hcut;clear c z s hb;have c:=j2.cell;have z:=j2.free;have s:=j2.lt;have hfin:=Qa (show fg w o l Hk.rest ls true (O (Aj #[.slice pl ls.length cl,.bool true])) (((wc.setCell ⟨l.h,7,none⟩ (Ah none 0 0)).setCell ⟨l.h,10,none⟩ (.bool false)).setCell ⟨l.h,11,none⟩ (I Z 0)) from by
      have j3:Al (((wc.setCell ⟨l.h,7,none⟩ (Ah none 0 0)).setCell ⟨l.h,10,none⟩ (.bool false)).setCell ⟨l.h,11,none⟩ (I Z 0)) l.h #[Ag (some ⟨l.a,0,none⟩),I Z 1,I Z sz,I Z 1,I Z (1+(sz:Int)),I Z sz,I Z tp,Ah none 0 0,bM,I Z 1,.bool false,I Z 0,I Z Cd,I Z dE,.slice pa k cp,v3] 185:=by simpa using ((j2.set 7 (Ah none 0 0)).set 10 (.bool false)).set 11 (I Z 0)
      rw[<-HFC.out]at j3;have hs:Stp (fun t=>t=(l.id,0)) o' o' wr (((wc.setCell ⟨l.h,7,none⟩ (Ah none 0 0)).setCell ⟨l.h,10,none⟩ (.bool false)).setCell ⟨l.h,11,none⟩ (I Z 0)):=Stp.BE (((r2.trans (Wr.set _ _ _ _)).trans (Wr.set _ _ _ _)).trans (Wr.set _ _ _ _)) sQ.out.oh;exact⟨_,bM,_,_,_,f',o',rfl,sQ.out.Ku j3 hs,kY.out.trans (hs.mono (by rintro _ rfl;exact⟨rfl,by simp⟩)),HRR.out.Ao hs (by simp)⟩)
     clear j2 r2;go_wp2_with fail;go_ret2;exact hfin.out
def GV (h:AA w o l H vc vo vw vf f)(hw:H.wf) :
  Ab ARt 242 #[Ag (some ⟨l.h,0,none⟩)] w (fg w o l H.drop.1 H.drop.2.1 H.drop.2.2):=by
 by_cases hm:H.AD=false\/H.scan≠H.top
 ·have e0:H.drop=(H,[],false):=by unfold Hp.drop;rw[if_pos hm]
  rw[e0];have hfin:=Qa (fun w' (hb:Ae w.1.size w w')=>show fg w o l H [] false (O (Aj #[Ah none 0 0,.bool false])) w' from ⟨_,vc,vo,vw,vf,f,o,rfl,h.below hb,Stp.of_below hb,Row.nil _ _ _ _ _⟩);have HM:=xg h;have HD:=po h;generalize H.AD=mv at HM hm;replace HM:=Qa HM
  cases mv
  ·clear h hw hm e0 HD
   go_enter func242,ntmps242;go_wp2_with fail;refine HM.out.mono ?_;rintro e w1 ⟨rfl,rfl⟩;go_wp2_with fail;go_ret2;exact hfin.out _ (qd _)
  ·have hs:H.scan≠H.top:=hm.resolve_left (by simp)
   rw[decide_eq_false hs]at HD;replace HD:=Qa HD;clear h hw hm e0 hs;go_enter func242,ntmps242;go_wp2_with fail;refine HM.out.mono ?_;rintro e w1 ⟨rfl,rfl⟩;go_wp2_with fail;refine HD.out.mono ?_;rintro e w1 ⟨rfl,hb⟩;go_wp2_with fail;go_ret2;exact hfin.out _ hb
 ·refine LX h hw ?_ ?_
  ·cases hmm:H.AD
   ·exact absurd (.inl hmm) hm
   ·rfl
  ·exact Decidable.byContradiction fun e=>hm (.inr e)
