import Derived.Test.YteehgedabdchcaaGreatQaf
import Derived.Test.YteehgedabdchcaaGreatQah
set_option linter.all false
set_option maxRecDepth 1000000
set_option maxHeartbeats 16000000
namespace Go.Proofs.YteehgedabdchcaaGreat
open Go.RowKit Hp
section
variable {w : World} {o : Own} {l : HLay} {H : Hp} {vc vo vw vf : Value} {f : Nat → Nat}
def hTag (l:HLay)(t:Tag):Prop:=t.1=l.id∧t.2≤6
theorem hTag_tc (l:HLay)(u:Bool):hTag l (l.tc u):=by unfold hTag HLay.tc;cases u<;>simp
def Mvd (w:World)(o:Own)(l:HLay)(H':Hp)(vo vw vf:Value)(w':World):Prop:=
 ∃ vc' f' o',HpIn w' o' l H' vc' vo vw vf f'∧Stp (hTag l) o o' w w'
theorem HpIn.mvd_below (h:HpIn w o l H vc vo vw vf f){w':World}(hb:Below w.heap.size w w'):Mvd w o l H vo vw vf w':=⟨vc,f,o,h.below hb,Stp.of_below hb⟩
theorem HpIn.ne_hwd (h:HpIn w o l H vc vo vw vf f):l.h≠l.wd:=by
 intro e;have h1:=h.oh;rw[e,h.ow]at h1;simp at h1
theorem moved_any (h:HpIn w o l H vc vo vw vf f) (hk:H.ok) (p:Nat) :
  Calls Tryz.prog 173 #[.pointer (some ⟨l.h,0,none⟩),.int .i64 p] w fun e w'=>e=.returned (.int .i64 ((H.moved p).2:Nat))∧Mvd w o l (H.moved p).1 vo vw vf w':=by
 have hth:=there_any h hk p
 cases hp:lko H.old p with
 | none =>
  rw[hp]at hth;rw[H.moved_none hp];refine (moved_no hth).mono ?_
  rintro e w' ⟨rfl,hb⟩
  exact⟨rfl,h.mvd_below hb⟩
 | some z =>
  obtain⟨ob,g⟩:=z;rw[hp]at hth;have hsz:=hk.sz;have hroom:=hk.room;have htop:=base_top hk;have hm:=lko_mem hp;obtain⟨ho,b1,b2,b3⟩:=old_ob hk hp;have hrd:=rnd_ge _ (Ob.size_bd ho).2;have hob:=Ob.size_bd ho;have hb0:=H.base_bd (!H.use);have hb1:=H.base_bd H.use
  cases g with
  | some q =>
   rw[H.moved_gone hp];have hq:=hk.gone _ hm q rfl;have hf:=(h.olds _ hm).2 q rfl;simp only at hq hf;have hcp:=fun (W:World) (hb:Below w.heap.size w W)=>copy_gone (b:=H.base H.use) (s:=H.size) (t:=H.top) (h.wds.below hb) (show p<2*H.size+1 by omega) hq.1 hq.2 hf
   have hbl:=h.hb;rcases (show H.use=false∨H.use=true by cases H.use<;>simp) with hu|hu
   ·have e0:H.base H.use=1:=by rw[hu];rfl
    have e1:∀ (v1:Value),H.cells l.a v1 vo vw vf=#[.pointer (some ⟨l.a,0,none⟩),.int .i64 1,.int .i64 H.size,.int .i64 H.top,.int .i64 (1+(H.size:Int)),.int .i64 H.size,.int .i64 H.otop,v1,vo,.int .i64 0,.bool H.moving,.int .i64 H.owed,.int .i64 H.scan,.int .i64 H.serial,vw,vf]:=fun v1=>by
     unfold Hp.cells;simp only[hu,Bool.false_eq_true,if_false]
    rw[e0]at hcp;rw[e1]at hbl;refine (moved_gone_f hbl hth hcp).mono ?_
    rintro e w' ⟨rfl,hb⟩
    exact⟨rfl,h.mvd_below hb⟩
   ·have e0:(H.base H.use:Int)=1+(H.size:Int):=by rw[hu];show (((1+H.size:Nat)):Int)=_;omega
    have e1:∀ (v1:Value),H.cells l.a v1 vo vw vf=#[.pointer (some ⟨l.a,0,none⟩),.int .i64 1,.int .i64 H.size,.int .i64 H.otop,.int .i64 (1+(H.size:Int)),.int .i64 H.size,.int .i64 H.top,vo,v1,.int .i64 1,.bool H.moving,.int .i64 H.owed,.int .i64 H.scan,.int .i64 H.serial,vw,vf]:=fun v1=>by
     unfold Hp.cells;simp only[hu,if_true]
    unfold spV at hcp;rw[e0]at hcp;rw[e1]at hbl;refine (moved_gone_t hbl hth hcp).mono ?_
    rintro e w' ⟨rfl,hb⟩
    exact⟨rfl,h.mvd_below hb⟩
  | none =>
   have howe:=hk.owe;have hge:=owes_ge hp;have hof:=(h.olds _ hm).1 rfl;simp only at hof;have hcp:=fun (W:World) (hb:Below w.heap.size w W)=>copy_any (b:=H.base H.use) (s:=H.size) (t:=H.top) (h.wds.below hb) hof ho (by omega) ⟨by omega,by omega,by omega,by omega⟩ (by omega) (by omega) (by omega)
   have hbl:=h.hb
   have hQ:∀ W:World,Wds W l.a l.wd (2*H.size+1) (copF f p H.top ob.size)→Wr l.wd w W →
     Blk (W.setCell ⟨l.h,11,none⟩ (.int .i64 ((H.owed-rnd ob.size:Nat):Int))) l.h ({ H with owed:=H.owed-rnd ob.size }.cells l.a vc vo vw vf) 185 →
     Calls Tryz.prog 230 #[.pointer (some ⟨l.h,0,none⟩),spV (H.base H.use) H.size (H.top+rnd ob.size),.int .i64 H.top] (W.setCell ⟨l.h,11,none⟩ (.int .i64 ((H.owed-rnd ob.size:Nat):Int))) fun e w'=>e=.returned (.tuple #[])∧Mvd w o l (H.moved p).1 vo vw vf w':=by
    intro W hWd hWr hB;have hs0:Stp (hTag l) o o w W:=Stp.of_wr hWr (by rw[h.ow];exact⟨rfl,by simp⟩)
    have hs1:Stp (hTag l) o o w (W.setCell ⟨l.h,11,none⟩ (.int .i64 ((H.owed-rnd ob.size:Nat):Int))):=hs0.setCell (by rw[h.oh];exact⟨rfl,by simp⟩) _
    have hs1':Stp (fun t=>t=(l.id,2)∨t=(l.id,0)) o o w (W.setCell ⟨l.h,11,none⟩ (.int .i64 ((H.owed-rnd ob.size:Nat):Int))):=(Stp.of_wr hWr (by rw[h.ow];exact .inl rfl)).setCell (by rw[h.oh];exact .inr rfl) _
    have hrc:=h.rc.stp hs1' (by cases H.use<;>simp)
    have hro:=h.ro.stp hs1' (by cases H.use<;>simp)
    have hrw:=h.rw.stp hs1' (by simp)
    have hrf:=h.rf.stp hs1' (by simp)
    have hWd2:=hWd.wr (Wr.set l.h W 11 (.int .i64 ((H.owed-rnd ob.size:Nat):Int))) (by intro e;have h1:=h.oa;rw[e,h.oh]at h1;simp at h1) (fun e=>h.ne_hwd e.symm)
    refine (taken_any (H:={ H with owed:=H.owed-rnd ob.size }) hB hrc (by
     have:=laid_len _ _ _ hk.cl hk.ck;omega) h.oh H.top (H.top+rnd ob.size)).mono ?_
    rintro e w' ⟨rfl,vc',o',g1,g2,g3⟩
    have hne:∀ j,j≠0→(l.id,j)≠l.tc H.use→¬((l.id,j)=(l.id,0)∨(l.id,j)=l.tc H.use):=fun j h1 h2 h=>h.elim (fun e=>h1 (by simpa using e)) h2
    have hneC:∀ j,j≠3→j≠4→(l.id,j)≠l.tc H.use:=fun j h3 h4 e=>by unfold HLay.tc at e;cases hu:H.use<;>rw[hu]at e<;>simp at e<;>omega
    refine⟨rfl,vc',copF f p H.top ob.size,o',?_,?_⟩
    ·refine h.went hk hp (by rw[H.moved_new hp];exact g1) (hWd2.stp g3 ?_ ?_) g2 (hro.stp g3 ?_) (hrw.stp g3 (hne _ (by simp) (hneC _ (by simp) (by simp)))) (hrf.stp g3 (hne _ (by simp) (hneC _ (by simp) (by simp)))) (fun b hb=>(g3.tags b (Nat.lt_of_lt_of_le hb hs1.size)).trans (hs1.tags b hb))
     ·rw[h.oa];exact hne _ (by simp) (hneC _ (by simp) (by simp))
     ·rw[h.ow];exact hne _ (by simp) (hneC _ (by simp) (by simp))
     ·unfold HLay.tc;cases H.use<;>simp
    ·exact hs1.trans (g3.mono fun t ht=>by
      rcases ht with rfl|rfl
      ·exact⟨rfl,by simp⟩
      ·exact hTag_tc _ _)
   rcases (show H.use=false∨H.use=true by cases H.use<;>simp) with hu|hu
   ·have e0:H.base H.use=1:=by rw[hu];rfl
    have e1:∀ (x:Nat) (v1:Value),{ H with owed:=x }.cells l.a v1 vo vw vf=#[.pointer (some ⟨l.a,0,none⟩),.int .i64 1,.int .i64 H.size,.int .i64 H.top,.int .i64 (1+(H.size:Int)),.int .i64 H.size,.int .i64 H.otop,v1,vo,.int .i64 0,.bool H.moving,.int .i64 x,.int .i64 H.scan,.int .i64 H.serial,vw,vf]:=fun x v1=>by
     unfold Hp.cells;simp only[hu,Bool.false_eq_true,if_false]
    rw[e0]at hcp hQ htop hroom;rw[show H.cells l.a vc vo vw vf={ H with owed:=H.owed }.cells l.a vc vo vw vf from rfl,e1]at hbl;simp only[e1]at hQ;refine (moved_f hbl hth hcp h.ne_hwd h.wds.lt h.wds.arena.lt ⟨by omega,by omega⟩ ⟨htop,by omega,by omega,by omega⟩ _ hQ).mono ?_
    rintro e w' ⟨rfl,hq⟩
    exact⟨by rw[H.moved_new hp],hq⟩
   ·have e0:H.base H.use=1+H.size:=by rw[hu];rfl
    have e1:∀ (x:Nat) (v1:Value),{ H with owed:=x }.cells l.a v1 vo vw vf=#[.pointer (some ⟨l.a,0,none⟩),.int .i64 1,.int .i64 H.size,.int .i64 H.otop,.int .i64 (1+(H.size:Int)),.int .i64 H.size,.int .i64 H.top,vo,v1,.int .i64 1,.bool H.moving,.int .i64 x,.int .i64 H.scan,.int .i64 H.serial,vw,vf]:=fun x v1=>by
     unfold Hp.cells;simp only[hu,if_true]
    rw[e0]at hcp hQ htop hroom;have e2:((1+H.size:Nat):Int)=1+(H.size:Int):=by omega
    unfold spV at hcp hQ;rw[e2]at hcp hQ;rw[show H.cells l.a vc vo vw vf={ H with owed:=H.owed }.cells l.a vc vo vw vf from rfl,e1]at hbl;simp only[e1]at hQ;refine (moved_t hbl hth hcp h.ne_hwd h.wds.lt h.wds.arena.lt ⟨by omega,by omega⟩ ⟨htop,by omega,by omega,by omega⟩ _ hQ).mono ?_
    rintro e w' ⟨rfl,hq⟩
    exact⟨by rw[H.moved_new hp],hq⟩
end
end Go.Proofs.YteehgedabdchcaaGreat
namespace Go.Proofs.YteehgedabdchcaaGreat
open Go.RowKit Hp
attribute [local go_sem ↓] Go.wp_at_zero Go.wp_at_succ
section
variable {w : World} {o : Own} {l : HLay} {H : Hp} {vc vo vw vf : Value} {f : Nat → Nat}
theorem Mvd.after {w' w'':World}{o':Own}{H':Hp}(h1:Stp (hTag l) o o' w w')(h2:Mvd w' o' l H' vo vw vf w''):Mvd w o l H' vo vw vf w'':=by
 obtain⟨vc',f',o2,h3,h4⟩:=h2;exact⟨vc',f',o2,h3,h1.trans h4⟩
theorem Mvd.undrew {H':Hp}{w':World}(h:Mvd w.drew o l H' vo vw vf w'):Mvd w o l H' vo vw vf w':=Mvd.after (Stp.of_below (bdrew (bsame w))) h
theorem HpIn.turn_mvd {w':World}(h:HpIn w o l H vc vo vw vf f)(hk:H.ok){p:Nat}{ob ob':Ob}(hp:lk H.cur p=some ob){k v:Nat}(hkk:k<ob.size)
  (hT:Turned w w' l.a l.wd (2*H.size+1) (upd f (p+k) v))(ho:ObAt (upd f (p+k) v) p ob'):Mvd w o l { H with cur:=up H.cur p ob' } vo vw vf w':=
 ⟨vc,_,o,h.turn hk hp hkk hT ho,Stp.of_wr hT.2 (by rw[h.ow];exact⟨rfl,by simp⟩)⟩
theorem hptr_any (h:HpIn w o l H vc vo vw vf f)(hw:H.wf)(p i:Nat) :
  Calls Tryz.prog 112 #[.pointer (some ⟨l.h,0,none⟩),.int .i64 p,.int .i64 i] w fun e w'=>e=.returned (.tuple #[.int .i64 ((H.ptrR p i).2.1:Nat),.int .i64 ((H.ptrR p i).2.2:Nat)])∧Mvd w o l (H.ptrR p i).1 vo vw vf w':=by
 have hk:=hw.ok;unfold Hp.ptrR
 cases hp:lk H.cur p with
 | none=>exact (hptr_no h hk hp i).mono fun _ _ ⟨a,b⟩=>⟨a,h.mvd_below b⟩
 | some ob =>
  simp only;have ho:=hw.obk hp
  cases hx:ob.ptrs[i]? with
  | none=>exact (hptr_out h hk hp i (by have:=List.getElem?_eq_none_iff.1 hx;rw[ho.lp]at this;exact this)).mono fun _ _ ⟨a,b⟩=>⟨a,h.mvd_below b⟩
  | some x =>
   simp only;obtain⟨ha,_,hl,_⟩:=h.at_ hk hp;have HH:=Lib.hid (here_yes h hk hp);have HN:=Lib.hid (fun w' (hw:Below w.heap.size w w')=>optr_get (h.wds.below hw) ha ho hl i x hx p i rfl rfl)
   have HC:=Lib.hid (fun w' (hw:Below w.heap.size w w')=>(h.below hw).words_cell)
   have HT:=(fun w' (hw:Below w.heap.size w w')=>there_any (h.below hw) hk x)
   cases ht:(lko H.old x).isSome with
   | false =>
    rw[ht]at HT;replace HT:=Lib.hid HT;have HI:=Lib.hid h;clear h hk hw hp ha ho hl hx ht;rw[if_neg (by simp)]
    go_enter Tryz.func112,Tryz.ntmps112;go_wp2_with fail;refine HH.out.mono ?_
    rintro e w1 ⟨rfl,hb1⟩
    have c1:=HC.out _ hb1;go_wp2_with fail;refine (HN.out _ hb1).mono ?_
    rintro e w2 ⟨rfl,hb2⟩
    go_wp2_with fail;refine (HT.out _ (btrans hb1 hb2)).mono ?_
    rintro e w3 ⟨rfl,hb3⟩
    go_wp2_with fail;go_ret2;exact⟨rfl,HI.out.mvd_below (btrans (btrans hb1 hb2) hb3)⟩
   | true =>
    rw[ht]at HT;replace HT:=Lib.hid HT;rw[if_pos rfl];have HM:=(fun w' (hw:Below w.heap.size w w')=>moved_any (h.below hw) hk x)
    have hmk:=Hp.moved_ok hk x;have hmb:=moved_bd hk (ho.ptr x (List.mem_of_getElem? hx));have hmp:=lk_moved (p:=x) hp;have hsz:=(moved_same (H:=H) x).1;have hip:i<ob.shp.p:=by have:=(List.getElem?_eq_some_iff.1 hx).1;rw[ho.lp]at this;exact this
    generalize H.moved x=r at *;obtain⟨H',q⟩:=r;simp only at HM hmk hmb hmp hsz ⊢;have HE:=Lib.hid (fun (w1 w':World)(o1:Own) vc1 f1 (h1:HpIn w1 o1 l H' vc1 vo vw vf f1) hT=>h1.turn_mvd (w':=w') hmk hmp (k:=3+i) (by unfold Ob.size;omega) hT (by rw[show p+(3+i)=p+3+i from by omega];exact (h1.at_ hmk hmp).1.setPtr ho i q hip))
    rw[show p+(3+i)=p+3+i from by omega]at HE
    have HS:=Lib.hid (fun (w1:World)(o1:Own) vc1 f1 (h1:HpIn w1 o1 l H' vc1 vo vw vf f1)=>osetptr_any h1.wds (h1.at_ hmk hmp).1 ho (h1.at_ hmk hmp).2.2.1 i q hip hmb p i q rfl rfl rfl)
    replace HM:=Lib.hid HM;clear h hk hw hp ha ho hl hx ht hmk hmb hmp hip hsz;go_enter Tryz.func112,Tryz.ntmps112;go_wp2_with fail;refine HH.out.mono ?_
    rintro e w1 ⟨rfl,hb1⟩
    have c1:=HC.out _ hb1;go_wp2_with fail;refine (HN.out _ hb1).mono ?_
    rintro e w2 ⟨rfl,hb2⟩
    go_wp2_with fail;refine (HT.out _ (btrans hb1 hb2)).mono ?_
    rintro e w3 ⟨rfl,hb3⟩
    go_wp2_with fail;refine (HM.out _ (btrans (btrans hb1 hb2) hb3)).mono ?_
    rintro e w4 ⟨rfl,vc4,f4,o4,h4,hs4⟩
    have c4:=h4.words_cell;go_wp2_with fail;refine (HS.out _ _ _ _ h4).mono ?_
    rintro e w5 ⟨rfl,hT5⟩
    go_wp2_with fail;go_ret2;exact⟨rfl,Mvd.after ((Stp.of_below (btrans (btrans hb1 hb2) hb3)).trans hs4) (HE.out _ _ _ _ _ h4 hT5)⟩
theorem hsetptr_any (h:HpIn w o l H vc vo vw vf f)(hw:H.wf)(p i q:Nat) :
  Calls Tryz.prog 113 #[.pointer (some ⟨l.h,0,none⟩),.int .i64 p,.int .i64 i,.int .i64 q] w fun e w'=>e=.returned (.int .i64 ((H.setPtrR p i q).2:Nat))∧Mvd w o l (H.setPtrR p i q).1 vo vw vf w':=by
 have hk:=hw.ok;unfold Hp.setPtrR
 cases hp:lk H.cur p with
 | none=>exact (hsetptr_no h hk hp i q).mono fun _ _ ⟨a,b⟩=>⟨a,h.mvd_below b⟩
 | some ob =>
  simp only;obtain⟨ha,ho,hl,_⟩:=h.at_ hk hp;have HH:=Lib.hid (here_yes h hk hp);have HC:=Lib.hid (fun w' (hw:Below w.heap.size w w')=>(h.below hw).words_cell)
  have HI:=Lib.hid h;by_cases hq:q≠0∧lk H.cur q=none
  ·rw[if_pos hq]
   have HQ:=Lib.hid (fun w' (hw:Below w.heap.size w w')=>here_no (h.below hw) hk hq.2)
   have hqi:(q:Int)≠0:=by have:=hq.1;omega
   clear h hk hw hp ha ho hl hq;go_enter Tryz.func113,Tryz.ntmps113;go_wp2_with fail;refine HH.out.mono ?_
   rintro e w1 ⟨rfl,hb1⟩
   go_wp2_with fail;refine (HQ.out _ hb1).mono ?_
   rintro e w2 ⟨rfl,hb2⟩
   go_wp2_with fail;go_ret;exact⟨rfl,HI.out.mvd_below (btrans hb1 hb2)⟩
  ·rw[if_neg hq]
   by_cases hi:ob.shp.p≤i
   ·rw[if_pos hi]
    have HN:=Lib.hid (fun w' (hw:Below w.heap.size w w')=>osetptr_no (h.wds.below hw) ha ho hl i hi p i q rfl rfl)
    by_cases h0:q=0
    ·subst h0
     clear h hk hw hp ha ho hl hq hi;go_enter Tryz.func113,Tryz.ntmps113;go_wp2_with fail;refine HH.out.mono ?_
     rintro e w1 ⟨rfl,hb1⟩
     have c1:=HC.out _ hb1;go_wp2_with fail;refine (HN.out _ hb1).mono ?_
     rintro e w2 ⟨rfl,hb2⟩
     go_wp2_with fail;go_ret;exact⟨rfl,HI.out.mvd_below (btrans hb1 hb2)⟩
    ·obtain⟨oq,hoq⟩:∃ oq,lk H.cur q=some oq:=by
      cases hoq:lk H.cur q with
      | none=>exact absurd ⟨h0,hoq⟩ hq
      | some oq=>exact⟨oq,rfl⟩
     have HQ:=Lib.hid (fun w' (hw:Below w.heap.size w w')=>here_yes (h.below hw) hk hoq)
     have hqi:(q:Int)≠0:=by omega
     clear h hk hw hp ha ho hl hq hi hoq;go_enter Tryz.func113,Tryz.ntmps113;go_wp2_with fail;refine HH.out.mono ?_
     rintro e w1 ⟨rfl,hb1⟩
     go_wp2_with fail;refine (HQ.out _ hb1).mono ?_
     rintro e w2 ⟨rfl,hb2⟩
     have c1:=HC.out _ (btrans hb1 hb2);go_wp2_with fail;refine (HN.out _ (btrans hb1 hb2)).mono ?_
     rintro e w3 ⟨rfl,hb3⟩
     go_wp2_with fail;go_ret;exact⟨rfl,HI.out.mvd_below (btrans (btrans hb1 hb2) hb3)⟩
   ·rw[if_neg hi]
    have hq':q=0∨(lk H.cur q).isSome=true:=by
     by_cases h0:q=0
     ·exact .inl h0
     ·refine .inr ?_
      cases hoq:lk H.cur q with
      | none=>exact absurd ⟨h0,hoq⟩ hq
      | some oq=>rfl
    refine (hsetptr_in h hk hp i q (by omega) hq').mono ?_
    rintro e w' ⟨rfl,_,⟨f',h'⟩,hw⟩
    exact⟨rfl,vc,f',o,h',Stp.of_wr hw (by rw[h.ow];exact⟨rfl,by simp⟩)⟩
end
theorem take_set_drop {α:Type}:∀ (ps qs:List α)(k:Nat)(x:α),ps[k]?=some x→k<qs.length→(ps.take k++qs.drop k).set k x=ps.take (k+1)++qs.drop (k+1)
 | [],_,k,x,h,_=>by simp at h
 | p::ps,[],k,x,_,h=>by simp at h
 | p::ps,q::qs,0,x,h,_=>by simp at h;subst h;simp
 | p::ps,q::qs,k+1,x,h,hk=>by
  have:=take_set_drop ps qs k x (by simpa using h) (by simpa using hk)
  simpa using this
section
variable {w : World} {a wd L : Nat} {f : Nat → Nat} {p : Nat} {ob : Ob}
def Else (f f':Nat→Nat)(p n:Nat):Prop:=∀ j,j<p∨p+n≤j→f' j=f j
theorem setstrong_any (h:Wds w a wd L f)(ho:ObAt f p ob)(hk:ob.ok)(hl:p+ob.size≤L)(ps:List Nat)(hps:∀ x ∈ ps,x≤131072)(hn:ps.length=ob.strong.length){v:Value}(hv:∀ w',Wr wd w w'→Ints w' v ps) :
  Calls Tryz.prog 195 #[.pointer (some ⟨a,0,none⟩),.int .i64 p,v] w fun e w'=>e=.returned (.int .i64 0)∧∃ f',Wds w' a wd L f'∧Wr wd w w'∧ObAt f' p (ob.setStrong ps)∧Else f f' p ob.size:=by
 have HS:=Lib.hid (oshape_any h ho hk hl p rfl);have HT:=Lib.hid (fun w=>strong1_any ob.shp w)
 have hlp:=hk.lp;have h8:=hk.shp.1;have HW:=Lib.hid h;have HO:=Lib.hid ho;have HK:=Lib.hid hk;have HL:=Lib.hid hl;have HP:=Lib.hid hps;have HV:=Lib.hid hv;obtain⟨n,hnn⟩:∃ n:Nat,n=ps.length:=⟨_,rfl⟩;have hsn:(if ob.shp.weak then (0:Int) else (ob.shp.p:Int))=(n:Int):=by
  rw[hnn,hn];unfold Ob.strong;split
  ·rfl
  ·rw[hlp]
 have hns:n≤ob.shp.p:=by
  rw[hnn,hn];unfold Ob.strong;split
  ·exact Nat.zero_le _
  ·rw[hlp];exact Nat.le_refl _
 have hfin:({ ob with ptrs:=ps.take n++ob.ptrs.drop n }:Ob)=ob.setStrong ps:=by
  unfold Ob.setStrong;rw[hnn,List.take_length];unfold Ob.strong at hn;split
  ·rename_i hw
   rw[if_pos hw]at hn;have:ps=[]:=List.eq_nil_of_length_eq_zero hn;subst this;simp
  ·rename_i hw
   rw[if_neg hw]at hn;rw[hn,List.drop_length,List.append_nil]
 have HFin:=Lib.hid hfin;have HN:=Lib.hid hnn;simp only[hsn]at HT;have HT:=Lib.hid (show ∀ w:World,Calls Tryz.prog 243 #[.agg #[.int .i64 ob.shp.p,.int .i64 ob.shp.d,.bool ob.shp.weak,.bool ob.shp.final]] w fun e w'=>e=.returned (.int .i64 n)∧Below w.heap.size w w' from HT.out)
 obtain⟨va,vcp,rfl⟩:∃ a c,v=.slice a n c:=by
  obtain⟨a',c',e,_⟩:=hv w (Wr.refl _ _);exact⟨a',c',by rw[hnn];exact e⟩
 clear h ho hk hl hps hn hv hsn hfin hnn;go_enter Tryz.func195,Tryz.ntmps195;go_wp2_with fail;refine HS.out.mono ?_
 rintro e w1 ⟨rfl,hb1⟩
 have jB:=Blk.new w1 #[.int .i64 ob.shp.p,.int .i64 ob.shp.d,.bool ob.shp.weak,.bool ob.shp.final] 93;have cB:=jB.cell;have hb2:=balloc hb1 (.cells #[.int .i64 ob.shp.p,.int .i64 ob.shp.d,.bool ob.shp.weak,.bool ob.shp.final] 93);go_wp2_with fail;refine (HT.out _).mono ?_
 rintro e w2 ⟨rfl,hb3⟩
 have hb4:=btrans hb2 hb3;clear hb1 hb2 hb3 jB cB;have hnI:(n:Int)≤8:=by omega
 go_wp2_with fail;go_loop [32](fun ix=>∃ k:Nat,ix=.int .i64 k∧k≤n)(fun ix=>n-(intOf ix).toNat)
 case atStart=>exact⟨0,rfl,by omega⟩
 case round =>
  obtain⟨k,rfl,hkn⟩:=hrel;by_cases hlt:k<n
  ·have hkI:(k:Int)<(n:Int):=by omega
   have hk8:(k:Int)<8:=by omega
   obtain⟨x,hx⟩:∃ x,ps[k]?=some x:=⟨_,List.getElem?_eq_getElem (by rw[←HN.out];omega)⟩
   have hxb:=HP.out x (List.mem_of_getElem? hx);have hx1:¬(x:Int)<0:=by omega
   have hx2:¬(x:Int) > 131072:=by omega
   rcases (HV.out w2 (Wr.of_below hb4)).form with ⟨e1,_⟩|⟨g,off,c,e1,hnc,hcm,hg,hcell⟩
   ·rw[e1]at hx;simp at hx
   ·injection e1 with e1 e2 e3
    subst e1 e3;clear e2;have cx:w2.cell? ⟨g,off+k,none⟩=some (.int .i64 x):=hcell k x hx;clear hcell hx;go_wp2_with fail;go_round
    case rel=>exact⟨k+1,by simp,by omega⟩
    case measure=>simp[intOf];omega
  ·obtain rfl:k=n:=by omega
   clear hlt;go_wp2_with fail;go_loopw [45](fun ix wr=>∃ (j:Nat)(f':Nat→Nat),ix=.int .i64 j∧j≤k∧Wds wr a wd L f'∧Wr wd w wr∧ObAt f' p { ob with ptrs:=ps.take j++ob.ptrs.drop j }∧Else f f' p ob.size)(fun ix _=>k-(intOf ix).toNat)
   case atStart=>exact⟨0,f,rfl,by omega,HW.out.below hb4,Wr.of_below hb4,by simpa using HO.out,fun _ _=>rfl⟩
   case round =>
    obtain⟨j,f',rfl,hjk,hW,hR,hO,hE⟩:=hrel;clear hb4 hkn;by_cases hlt:j<k
    ·have hjI:(j:Int)<(k:Int):=by omega
     have hj8:(j:Int)<8:=by omega
     obtain⟨x,hx⟩:∃ x,ps[j]?=some x:=⟨_,List.getElem?_eq_getElem (by rw[←HN.out];omega)⟩
     have hxb:=HP.out x (List.mem_of_getElem? hx);have hts:=take_set_drop ps ob.ptrs j x hx (by rw[hlp];omega)
     have hok:Ob.ok { ob with ptrs:=ps.take j++ob.ptrs.drop j }:=⟨HK.out.shp,by show (ps.take j++ob.ptrs.drop j).length=_;rw[List.length_append,List.length_take,List.length_drop,HK.out.lp,←HN.out];show _=ob.shp.p;omega,HK.out.ln,fun z hz=>by
      rcases List.mem_append.1 hz with hz|hz
      ·exact HP.out z (List.mem_of_mem_take hz)
      ·exact HK.out.ptr z (List.mem_of_mem_drop hz),HK.out.num,HK.out.ser,HK.out.sec⟩
     have HSP:=Lib.hid (osetptr_any hW hO hok HL.out j x (show j<ob.shp.p by omega) hxb p j x rfl rfl rfl)
     have hO2:=hO.setPtr hok j x (show j<ob.shp.p by omega)
     have hO2':ObAt (upd f' (p+3+j) x) p { ob with ptrs:=ps.take (j+1)++ob.ptrs.drop (j+1) }:=by rw[←hts];exact hO2
     have hE2:Else f (upd f' (p+3+j) x) p ob.size:=fun i hi=>by
      rw[upd_ne _ _ _ _ (by unfold Ob.size at hi;omega)];exact hE i hi
     have HOE:=Lib.hid (And.intro hO2' hE2);rcases (HV.out wr hR).form with ⟨e1,_⟩|⟨g,off,c,e1,hnc,hcm,hg,hcell⟩
     ·rw[e1]at hx;simp at hx
     ·injection e1 with e1 e2 e3
      subst e1 e3;clear e2;have cx:wr.cell? ⟨g,off+j,none⟩=some (.int .i64 x):=hcell j x hx;have HRR:=Lib.hid hR;clear hcell hx hts hok hO2 hO2' hE2 hO hE hW hR;go_wp2_with fail;refine HSP.out.mono ?_
      rintro e w5 ⟨rfl,hT5⟩
      go_wp2_with fail;go_roundw
      case rel=>exact⟨j+1,_,by simp,by omega,hT5.1,HRR.out.trans hT5.2,HOE.out.1,HOE.out.2⟩
      case measure=>simp[intOf];omega
    ·obtain rfl:j=k:=by omega
     go_wp2_with fail;go_ret;exact⟨rfl,f',hW,hR,by rw[←HFin.out];exact hO,hE⟩
end
section
variable {w w' : World} {o : Own} {l : HLay} {H : Hp} {vc vo vw vf : Value} {f : Nat → Nat}
theorem HpIn.cells_f' (h:HpIn w o l H vc vo vw vf f)(hu:H.use=false):Blk w l.h #[.pointer (some ⟨l.a,0,none⟩),.int .i64 1,.int .i64 H.size,.int .i64 H.top,.int .i64 (1+(H.size:Int)),.int .i64 H.size,.int .i64 H.otop,vc,vo,.int .i64 0,.bool H.moving,.int .i64 H.owed,.int .i64 H.scan,.int .i64 H.serial,vw,vf] 185:=h.cells_f hu
theorem HpIn.cells_t' (h:HpIn w o l H vc vo vw vf f)(hu:H.use=true):Blk w l.h #[.pointer (some ⟨l.a,0,none⟩),.int .i64 1,.int .i64 H.size,.int .i64 H.otop,.int .i64 (1+(H.size:Int)),.int .i64 H.size,.int .i64 H.top,vo,vc,.int .i64 1,.bool H.moving,.int .i64 H.owed,.int .i64 H.scan,.int .i64 H.serial,vw,vf] 185:=by
 have hb:=h.hb;unfold Hp.cells at hb;rw[hu,if_pos rfl]at hb;exact hb
theorem HpIn.turn_ob (h:HpIn w o l H vc vo vw vf f) (hk:H.ok) {p:Nat} {ob ob':Ob} (hp:lk H.cur p=some ob) {f':Nat→Nat} (hW:Wds w' l.a l.wd (2*H.size+1) f') (hR:Wr l.wd w w') (hE:Else f f' p ob.size) (ho:ObAt f' p ob') :
  HpIn w' o l { H with cur:=up H.cur p ob' } vc vo vw vf f':=by
 have hm:=lk_mem hp;have hoh:=h.oh;have how:=h.ow;have hne:∀ {c:Nat} {i:Nat},o c=(l.id,i)→i≠2→c≠l.wd:=fun hc hi e=>by
  rw[e,how]at hc;injection hc with _ hc;exact hi hc.symm
 have hrow:∀ {i:Nat} {v:Value} {n:Nat} {xs:List Value},i≠2→Row w o (l.id,i) 3 1 v n xs→Row w' o (l.id,i) 3 1 v n xs:=fun hi hr=>by
  refine hr.stp (T:=fun t=>t=(l.id,2)) (o':=o) (Stp.of_wr hR how) ?_
  intro e;injection e with _ e;exact hi e
 have hlen:(up H.cur p ob').length=H.cur.length:=by simp[up]
 have hmap:((up H.cur p ob').map fun x=>nv x.1)=H.cur.map fun x=>nv x.1:=by
  have:=congrArg (List.map nv) (up_keys H.cur p ob');simpa [List.map_map,Function.comp_def] using this
 refine⟨h.hb.wr hR (hne hoh (by omega)),hW,?_,hrow (by split<;>omega) h.ro,hrow (by omega) h.rw,hrow (by omega) h.rf,h.oh,h.oa,h.ow,?_,?_,?_⟩
 ·show Row w' o (l.id,if H.use then 4 else 3) _ 1 vc (up H.cur p ob').length _
  rw[hlen,hmap];exact hrow (by split<;>omega) h.rc
 ·intro x hx
  obtain⟨y,hy,rfl⟩:=List.mem_map.1 hx;split
  ·exact ho
  ·rename_i e
   refine (h.obs y hy).of_eq (hk.ck y hy) fun j h1 h2=>hE j ?_
   have h3:=laid_apart _ _ _ hk.cl hk.ck y hy (p,ob) hm e;have h4:=rnd_ge _ (Ob.size_bd (hk.ck y hy)).2;have h5:=rnd_ge _ (Ob.size_bd (hk.ck _ hm)).2;simp only at h3 h5;omega
 ·intro x hx
  have h3:=Hp.apart hk hm hx;have h4:x.2.1.ok:=hk.ok (x.1,x.2.1) (List.mem_map.2 ⟨x,hx,rfl⟩);have h5:=Ob.size_bd h4;obtain⟨g1,g2⟩:=h.olds x hx;simp only at h3;refine⟨fun e=>(g1 e).of_eq h4 fun j h1 h2=>hE j (by omega),fun q e=>?_⟩
  rw[hE x.1 (by omega)];exact g2 q e
 ·have h1:=laid_mem _ _ _ hk.cl _ hm
  have h2:=H.base_bd H.use;simp only at h1;rw[hE 0 (by omega)];exact h.zr
theorem HpIn.hdr (h:HpIn w o l H vc vo vw vf f){H':Hp}{w':World}(hb:Blk w' l.h (H'.cells l.a vc vo vw vf) 185)(hs:Stp (fun t=>t=(l.id,0)) o o w w')
  (e1:H'.size=H.size)(e2:H'.use=H.use)(e3:H'.cur=H.cur)(e4:H'.old=H.old)(e5:H'.weak=H.weak)(e6:H'.final=H.final):HpIn w' o l H' vc vo vw vf f:=by
 have hn:∀ j,j≠0→¬(l.id,j)=(l.id,0):=fun j hj e=>hj (by simpa using e)
 exact⟨hb,by rw[e1];exact h.wds.stp hs (by rw[h.oa];exact hn _ (by omega)) (by rw[h.ow];exact hn _ (by omega)),by rw[e2,e3];exact h.rc.stp hs (hn _ (by split<;>omega)),by rw[e2,e4];exact h.ro.stp hs (hn _ (by split<;>omega)),
  by rw[e5];exact h.rw.stp hs (hn _ (by omega)),by rw[e6];exact h.rf.stp hs (hn _ (by omega)),h.oh,h.oa,h.ow,by rw[e3];exact h.obs,by rw[e4];exact h.olds,h.zr⟩
theorem cells_scan (H:Hp)(a:Nat)(vc vo vw vf:Value)(n:Nat):(H.cells a vc vo vw vf).setIfInBounds 12 (.int .i64 n)={ H with scan:=n }.cells a vc vo vw vf:=by
 unfold Hp.cells;cases H.use<;>rfl
theorem scanned_any (h:HpIn w o l H vc vo vw vf f):Calls Tryz.prog 193 #[.pointer (some ⟨l.h,0,none⟩)] w fun e w'=>e=.returned (.bool (decide (H.scan=H.top)))∧Below w.heap.size w w':=by
 have hd:decide (H.scan=H.top)=((H.scan:Int)==(H.top:Int)):=by
  rw[Bool.eq_iff_iff];simp only[decide_eq_true_eq,beq_iff_eq];omega
 rw[hd];rcases (show H.use=false∨H.use=true by cases H.use<;>simp) with hu|hu
 ·have c:=(h.cells_f' hu).cell
  clear h hd hu;go_enter Tryz.func193,Tryz.ntmps193;go_upto_region 1 with fail;go_quiet (fail);go_wp2_with fail;go_ret;exact⟨rfl,bdrewN (bsame w) _⟩
 ·have c:=(h.cells_t' hu).cell
  clear h hd hu;go_enter Tryz.func193,Tryz.ntmps193;go_upto_region 1 with fail;go_quiet (fail);go_wp2_with fail;go_ret;exact⟨rfl,bdrewN (bsame w) _⟩
end
theorem up_same {H:Hp}(hk:H.ok){p:Nat}{ob:Ob}(hp:lk H.cur p=some ob):up H.cur p ob=H.cur:=by
 unfold up;refine (List.map_congr_left fun x hx=>?_).trans (List.map_id _)
 split
 ·rename_i e
  obtain⟨q,y⟩:=x;simp only at e;subst e;rw[lk_uniq hk.cl hk.ck (lk_mem hp) hx];rfl
 ·rfl
theorem movedL_snoc:∀ (l:List Nat)(p:Nat)(H:Hp),H.movedL (l++[p])=(((H.movedL l).1.moved p).1,(H.movedL l).2++[((H.movedL l).1.moved p).2])
 | [],p,H=>rfl
 | q::l,p,H=>by
  have:=movedL_snoc l p (H.moved q).1;show ((((H.moved q).1.movedL (l++[p])).1,(H.moved q).2::((H.moved q).1.movedL (l++[p])).2):Hp×List Nat)=_;rw[this];rfl
theorem scan1_eq {H:Hp}(hw:H.wf)(hm:H.moving=true)(hs:H.scan≠H.top){ob:Ob}(hp:lk H.cur H.scan=some ob) :
  H.scan1=({ (H.movedL ob.strong).1 with cur:=up (H.movedL ob.strong).1.cur H.scan (ob.setStrong (H.movedL ob.strong).2),scan:=H.scan+rnd ob.size },true):=by
 unfold Hp.scan1;rw[if_neg (by rw[hm];simp[hs]),hp]
 simp only;unfold Ob.strong Ob.setStrong;split
 ·show _=(({ H with cur:=up H.cur H.scan ob,scan:=H.scan+rnd ob.size }:Hp),true)
  rw[up_same hw.ok hp]
 ·rfl
section
variable {w w' : World} {o : Own} {l : HLay} {H : Hp} {vc vo vw vf : Value} {f : Nat → Nat}
abbrev bxH (l:HLay):Tag:=(l.id+1,0)
theorem bxH_no (l:HLay):¬hTag l (bxH l):=by unfold hTag;simp
theorem HpIn.boxed (h:HpIn w o l H vc vo vw vf f){a:Addr}(ht:o a.block=bxH l)(v:Value):HpIn (w.setCell a v) o l H vc vo vw vf f:=by
 have hs:=(Stp.refl (fun t=>t=bxH l) o w).setCell (a:=a) ht v
 have hn:∀ j,¬(l.id,j)=bxH l:=fun j=>by simp
 exact⟨h.hb.stp hs (by rw[h.oh];exact hn _),h.wds.stp hs (by rw[h.oa];exact hn _) (by rw[h.ow];exact hn _),h.rc.stp hs (hn _),h.ro.stp hs (hn _),h.rw.stp hs (hn _),h.rf.stp hs (hn _),h.oh,h.oa,h.ow,h.obs,h.olds,h.zr⟩
theorem set_mid {α:Type}(a b:List α)(x y:α):(a++x::b).set a.length y=(a++[y])++b:=by
 rw[List.set_append_right _ _ (Nat.le_refl _)];simp
theorem HpIn.c0 (h:HpIn w o l H vc vo vw vf f):w.cell? ⟨l.h,0,none⟩=some (.pointer (some ⟨l.a,0,none⟩)):=h.words_cell
theorem HpIn.c12 (h:HpIn w o l H vc vo vw vf f):w.cell? ⟨l.h,12,none⟩=some (.int .i64 H.scan):=by rw[h.hb.cell];unfold Hp.cells;split<;>rfl
theorem scan_go (h0 : HpIn w o l H vc vo vw vf f) (hw : H.wf) (hm : H.moving = true) (hs : H.scan ≠ H.top) :
    Calls Tryz.prog 129 #[.pointer (some ⟨l.h, 0, none⟩)] w fun e w' => e = .returned (.bool H.scan1.2) ∧ Mvd w o l H.scan1.1 vo vw vf w' := by
  obtain ⟨o1, ho1⟩ : ∃ o1, o1 = ext o w.heap.size (bxH l) := ⟨_, rfl⟩
  have h := h0.retag (o' := o1) fun b hb => by rw [ho1]; exact ext_lt hb
  have hS0 : Stp (hTag l) o o1 w w := by rw [ho1]; exact (Stp.refl _ o w).ext _ _ (Nat.le_refl _)
  have hbx : ∀ b, w.heap.size ≤ b → o1 b = bxH l := fun b hb => by rw [ho1]; exact ext_ge hb
  have hext : ∀ n, w.heap.size ≤ n → ext o1 n (bxH l) = o1 := fun n hn => by rw [ho1]; exact ext_ext _ _ _ _ hn
  clear ho1 h0
  obtain ⟨ob, hp, _⟩ := scan_ob hw hm hs
  rw [scan1_eq hw hm hs hp]
  have hk := hw.ok
  obtain ⟨ha, ho, hl, _⟩ := h.at_ hk hp
  have hsb := scan_bd hw hp
  have HM := Lib.hid (moving_any h)
  rw [hm] at HM
  have HD := scanned_any h
  rw [decide_eq_false hs] at HD
  replace HD := Lib.hid HD
  have HSh := Lib.hid (fun (W : World) (hb : Below w.heap.size w W) => oshape_any (h.wds.below hb) ha ho hl H.scan rfl)
  have HSt := Lib.hid (fun (W : World) (hb : Below w.heap.size w W) => strong_any (h.wds.below hb) ha ho hl)
  have HZ := Lib.hid (fun W => hsize_any ob.shp ho.shp W)
  have hob := Ob.size_bd ho
  have hsz : ob.size = 3 + ob.shp.p + ob.shp.d := rfl
  have HN := Lib.hid (fun W => round_any (3 + ob.shp.p + ob.shp.d) (by omega) (by omega) _ rfl W)
  have hpb : ∀ x ∈ ob.strong, x ≤ 131072 := fun x hx => by
    unfold Ob.strong at hx
    split at hx
    · cases hx
    · exact ho.ptr x hx
  have HI := Lib.hid h
  have HS0 := Lib.hid hS0
  have HB := Lib.hid hbx
  have HE := Lib.hid hext
  have HW := Lib.hid hw
  have HP := Lib.hid hp
  have HO := Lib.hid ho
  have HPB := Lib.hid hpb
  have HSB := Lib.hid hsb
  have hl8 : ob.strong.length ≤ 8 := by
    unfold Ob.strong
    split
    · exact Nat.zero_le _
    · rw [ho.lp]; exact ho.shp.1
  have hok0 := h.hb.lt
  have c0 := fun W (hb : Below w.heap.size w W) => (h.below hb).c0
  have c12 := fun W (hb : Below w.heap.size w W) => (h.below hb).c12
  have C0 := Lib.hid c0
  have C12 := Lib.hid c12
  clear c0 c12 h hS0 hbx hext hw hm hs hp hk ha ho hl hpb hsb
  go_enter Tryz.func129, Tryz.ntmps129
  go_wp2_with fail
  refine HM.out.mono ?_
  rintro e w1 ⟨rfl, rfl⟩
  go_wp2_with fail
  refine HD.out.mono ?_
  rintro e w1 ⟨rfl, b1⟩
  have k0 := C0.out _ b1
  have k12 := C12.out _ b1
  have s1 : l.h < w1.heap.size := Nat.lt_of_lt_of_le hok0 b1.size
  have hn1 := World.new_ne w1 ⟨l.h, 0, none⟩ k0
  go_upto_region 3 with fail
  go_cut [3, 5] (fun t3 t5 wx => ∃ B, t3 = .pointer (some ⟨B, 0, none⟩) ∧ t5 = .int .i64 0 ∧ Blk wx B #[.int .i64 ob.shp.p, .int .i64 ob.shp.d, .bool ob.shp.weak, .bool ob.shp.final] 93 ∧ Below w1.heap.size w1 wx ∧ w1.heap.size ≤ B)
  case first =>
    go_region_with (first | (go_at_call 130; refine (HSh.out _ (by first | exact bdrew b1 | exact bdrew (balloc b1 _) | exact balloc (bdrew b1) _)).mono ?_; rintro e w4 ⟨rfl, hb4⟩; try (have jB4 : Blk w4 w1.heap.size #[.int .i64 0, .int .i64 0, .bool false, .bool false] 93 := Blk.below (drewB (Blk.new w1 _ _)) hb4 (by simp); have cB4 := jB4.cell; have zB4 := jB4.free; have sB4 := jB4.lt)) | fail)
    all_goals
      go_wp2_with fail
      go_meet
      have hs4 : w1.heap.size ≤ w4.heap.size := by have := hb4.size; simp at this; omega
      first
        | (refine ⟨w4.heap.size, by with_reducible rfl, rfl, ?_, ?_, hs4⟩
           · exact Blk.new _ _ _
           · exact balloc (btrans (bdrew (bsame w1)) hb4) _)
        | (refine ⟨w1.heap.size, by with_reducible rfl, rfl, ?_, ?_, Nat.le_refl _⟩
           · have h8 := (((jB4.set 0 (.int .i64 ob.shp.p)).set 1 (.int .i64 ob.shp.d)).set 2 (.bool ob.shp.weak)).set 3 (.bool ob.shp.final)
             simp only [Array.setIfInBounds_def] at h8
             simpa using h8
           · exact bset (bset (bset (bset (btrans (bdrew (balloc (bsame w1) _)) hb4) (Nat.le_refl _) _) (Nat.le_refl _) _) (Nat.le_refl _) _) (Nat.le_refl _) _)
  case rest =>
    obtain ⟨B, rfl, rfl, jB, hbc, hBge⟩ := hcut
    have b2 := btrans b1 hbc
    have hBw : w.heap.size ≤ B := Nat.le_trans b1.size hBge
    clear k0 k12 s1 hn1 hbc b1 hBge
    have k0 := C0.out _ b2
    have k12 := C12.out _ b2
    go_upto_region 6 with fail
    go_cut [5, 6] (fun t5 t6 wx => ∃ pa cp, t5 = .int .i64 0 ∧ t6 = .slice pa ob.strong.length cp ∧ Row wx o1 (bxH l) 3 1 (.slice pa ob.strong.length cp) ob.strong.length (ob.strong.map nv) ∧ Below w.heap.size w wx ∧ Blk wx B #[.int .i64 ob.shp.p, .int .i64 ob.shp.d, .bool ob.shp.weak, .bool ob.shp.final] 93 ∧ ∀ b, (Value.slice pa ob.strong.length cp).ownBlock = some b → w.heap.size ≤ b)
    case first =>
      go_region_with (first | (go_at_call 194; refine (HSt.out _ (bdrew b2)).mono ?_; rintro e w6 ⟨v, rfl, hr6, hb6⟩) | fail)
      all_goals
        go_wp2_with fail
        go_meet
        obtain ⟨pa, cp, rfl⟩ := hr6.slc
        have hge := hr6.new_ge
        have hr6 := hr6.out o1 (bxH l)
        rw [HE.out _ (bdrew b2).size] at hr6
        exact ⟨pa, cp, rfl, rfl, hr6, btrans (bdrew b2) hb6, (drewB jB).below hb6 (drewB jB).lt, fun b hb => Nat.le_trans (bdrew b2).size (hge b hb)⟩
    case rest =>
    clear k0 k12
    obtain ⟨pa, cp, rfl, rfl, hr6, b6, jB6, hge6⟩ := hcut
    clear jB b2
    generalize wc = w6 at *
    obtain ⟨n, hn⟩ : ∃ n, n = ob.strong.length := ⟨_, rfl⟩
    have HNn := Lib.hid hn
    rw [← hn] at hr6 hl8 ⊢
    have hnI : (n : Int) ≤ 8 := by omega
    have hr6' : Row w6 o1 (bxH l) 3 1 (.slice pa n cp) n (((H.movedL (ob.strong.take 0)).2 ++ ob.strong.drop 0).map nv) := by simpa [Hp.movedL] using hr6
    have hI6 := HI.out.below b6
    have HGe := Lib.hid hge6
    have hBt6 := HB.out B hBw
    have hS6 : Stp (hTag l) o1 o1 w w6 := Stp.of_below b6
    clear hn hr6 b6 hge6
    go_wp2_with fail
    go_loopw [52] (fun ix wr => ∃ (k : Nat) (vc' : Value) (f' : Nat → Nat) (o' : Own), ix = .int .i64 k ∧ k ≤ n ∧ HpIn wr o' l (H.movedL (ob.strong.take k)).1 vc' vo vw vf f' ∧ Stp (hTag l) o1 o' w wr ∧ Row wr o' (bxH l) 3 1 (.slice pa n cp) n (((H.movedL (ob.strong.take k)).2 ++ ob.strong.drop k).map nv) ∧ Blk wr B #[.int .i64 ob.shp.p, .int .i64 ob.shp.d, .bool ob.shp.weak, .bool ob.shp.final] 93 ∧ o' B = bxH l) (fun ix _ => n - (intOf ix).toNat)
    case atStart => exact ⟨0, vc, f, o1, rfl, by omega, hI6, hS6, hr6', jB6, hBt6⟩
    case round =>
      obtain ⟨k, vc', f', o', rfl, hkn, hI, hS, hR, hJ, hBt⟩ := hrel
      clear hI6 hr6' jB6 hS6 hBt6
      by_cases hlt : k < n
      · have hkI : (k : Int) < (n : Int) := by omega
        have hk8 : (k : Int) < 8 := by omega
        obtain ⟨x, hx⟩ : ∃ x, ob.strong[k]? = some x := ⟨_, List.getElem?_eq_getElem (by rw [← HNn.out]; omega)⟩
        have htk := take_snoc_get hx
        have hdr : ob.strong.drop k = x :: ob.strong.drop (k + 1) := by
          have := (List.getElem?_eq_some_iff.1 hx)
          obtain ⟨h1, h2⟩ := this
          rw [← h2]; exact List.drop_eq_getElem_cons h1
        have hwk := (Hp.movedL_wf (ob.strong.take k) HW.out).ok
        have hsn := movedL_snoc (ob.strong.take k) x H
        rw [← htk] at hsn
        have hlen : (H.movedL (ob.strong.take k)).2.length = k := by rw [movedL_len, List.length_take, ← HNn.out]; omega
        have HSn := Lib.hid hsn
        rw [hdr] at hR
        generalize H.movedL (ob.strong.take k) = r at *
        obtain ⟨Hk, lk'⟩ := r
        simp only at hI hR hwk hlen HSn
        rcases hR.shape with ⟨_, h0⟩ | ⟨g, c, e1, hnc, hcm⟩
        · omega
        · injection e1 with e1 _ e3
          subst e1 e3
          have hset : (lk' ++ x :: ob.strong.drop (k + 1)).set k (Hk.moved x).2 = (lk' ++ [(Hk.moved x).2]) ++ ob.strong.drop (k + 1) := by
            have := set_mid lk' (ob.strong.drop (k + 1)) x (Hk.moved x).2
            rwa [hlen] at this
          have cx : wr.cell? ⟨g, k, none⟩ = some (.int .i64 x) := by
            refine hR.cells k _ ?_
            rw [List.getElem?_map, List.getElem?_append_right (by omega), hlen]; simp [nv]
          have HMv := Lib.hid (moved_any hI hwk x)
          have HSet := Lib.hid hset
          have HLen := Lib.hid hlen
          have HSS := Lib.hid hS
          have HR := Lib.hid hR
          have HJ := Lib.hid hJ
          have HBt := Lib.hid hBt
          have hgl := hR.blt
          clear hsn hdr htk hset hwk hlen hx hI hS hR hJ hBt
          go_wp2_with fail
          refine HMv.out.mono ?_
          rintro e w7 ⟨rfl, vc7, f7, o7, hI7, hS7⟩
          have hR7 := HR.out.stp hS7 (bxH_no l)
          have hJ7 := HJ.out.stp hS7 (by rw [HBt.out]; exact bxH_no l)
          have z7 := hR7.free k
          have s7 := hR7.blt
          obtain ⟨u7, c7⟩ : ∃ u, w7.cell? ⟨g, k, none⟩ = some u := by
            have h1 : k < (List.map nv (lk' ++ x :: ob.strong.drop (k + 1))).length := by rw [hR7.len]; omega
            exact ⟨_, hR7.cells k _ (List.getElem?_eq_getElem h1)⟩
          have hfin := Lib.hid (show ∃ (vc' : Value) (f' : Nat → Nat) (o' : Own), HpIn (w7.setCell ⟨g, k, none⟩ (.int .i64 (Hk.moved x).2)) o' l (H.movedL (ob.strong.take (k + 1))).1 vc' vo vw vf f' ∧ Stp (hTag l) o1 o' w (w7.setCell ⟨g, k, none⟩ (.int .i64 (Hk.moved x).2)) ∧ Row (w7.setCell ⟨g, k, none⟩ (.int .i64 (Hk.moved x).2)) o' (bxH l) 3 1 (.slice (some ⟨g, 0, none⟩) n cp) n (((H.movedL (ob.strong.take (k + 1))).2 ++ ob.strong.drop (k + 1)).map nv) ∧ Blk (w7.setCell ⟨g, k, none⟩ (.int .i64 (Hk.moved x).2)) B #[.int .i64 ob.shp.p, .int .i64 ob.shp.d, .bool ob.shp.weak, .bool ob.shp.final] 93 ∧ o' B = bxH l from by
            have hgB : B ≠ g := fun e => by
              subst e
              have h1 := hJ7
              unfold Blk at h1
              rcases hR7.own.2 with ⟨h', _⟩ | ⟨g', cap', cur, h', _, hg, _⟩
              · simp at h'
              · injection h' with h' _ _
                injection h' with h'
                injection h' with h' _ _
                subst h'
                rw [h1] at hg
                injection hg with hg
                injection hg with _ hg _
                exact absurd hg (by decide)
            rw [HSn.out]
            refine ⟨vc7, f7, o7, hI7.boxed hR7.otag _, ?_, ?_, hJ7.set_other hgB _, (hS7.tags _ HJ.out.lt).trans HBt.out⟩
            · exact (HSS.out.trans hS7).setCell_new (HGe.out g rfl) _
            · have := hR7.put1 k (.int .i64 (Hk.moved x).2)
              rw [show (Value.int IntKind.i64 ((Hk.moved x).2 : Nat)) = nv (Hk.moved x).2 from rfl, ← List.map_set, HSet.out] at this
              exact this)
          clear hR7 hJ7 hS7 hI7
          go_wp2_with fail
          obtain ⟨vc8, f8, o8, g1, g2, g3, g4, g5⟩ := hfin.out
          go_roundw
          case rel => exact ⟨k + 1, vc8, f8, o8, by simp, by omega, g1, g2, g3, g4, g5⟩
          case measure => simp [intOf]; omega
      · obtain rfl : k = n := by omega
        clear hlt
        rw [HNn.out, List.take_length] at hI
        rw [HNn.out, List.take_length, List.drop_length, List.append_nil, ← HNn.out] at hR
        have hwk := (Hp.movedL_wf ob.strong HW.out)
        have hmp := lk_movedL ob.strong HP.out
        have hpb := movedL_bd ob.strong HW.out.ok HPB.out
        have hlen := movedL_len ob.strong H
        obtain ⟨s1, s2, s3, s4, s5, s6, s7, s8⟩ := movedL_same ob.strong H
        have hsc : (H.movedL ob.strong).1.scan = H.scan := s4
        clear s1 s2 s3 s4 s5 s6 s7 s8
        generalize hr : H.movedL ob.strong = r at *
        obtain ⟨Hk, ps⟩ := r
        have HRr := Lib.hid hr
        clear hr
        simp only at hI hR hwk hmp hpb hlen hsc
        obtain ⟨ha, ho, hl, _⟩ := hI.at_ hwk.ok hmp
        have hstW : ∀ W', Wr l.wd wr W' → Ints W' (.slice pa k cp) ps := fun W' hWr => by
          have := (hR.stp (Stp.of_wr (T := fun t => t = (l.id, 2)) hWr hI.ow) (by simp))
          rw [show k = ps.length from by rw [hlen, HNn.out]] at this ⊢
          exact this.ints
        have HSP := Lib.hid (setstrong_any (hI.wds.below (bdrew (bsame wr))) ha ho hl ps hpb (by rw [hlen]) (v := .slice pa k cp) (fun W' hWr => hstW W' hWr.undrew))
        have c0 := hI.c0
        have c12 := hI.c12
        rw [hsc] at c12
        have HII := Lib.hid hI
        have HSS := Lib.hid hS
        have HJ := Lib.hid hJ
        have HWk := Lib.hid hwk
        have HMp := Lib.hid hmp
        have hneB : B ≠ l.wd := fun e => by have h1 := hBt; rw [e, hI.ow] at h1; simp at h1
        have HNe := Lib.hid hneB
        have hsbi := HSB.out
        have hsbI : (H.scan : Int) + (rnd ob.size : Int) ≤ 65536 := by omega
        clear hI hS hR hJ hBt hwk hmp hpb hlen ha ho hl hstW hneB
        go_upto_region 14 with fail
        go_still_tail 9, (by kernel_rfl)
        change wpList _ _ _ _ _ wr.drew
        go_wp2_with fail
        refine HSP.out.mono ?_
        rintro e w9 ⟨rfl, f9, hW9, hR9, hO9, hE9⟩
        have hI9 := (HII.out.below (bdrew (bsame wr))).turn_ob HWk.out.ok HMp.out hW9 hR9 hE9 hO9
        have hJ9 := (drewB HJ.out).wr hR9 HNe.out
        have hS9 : Stp (hTag l) o1 o' w w9 := HSS.out.trans ((Stp.of_below (bdrew (bsame wr))).trans (Stp.of_wr hR9 (by rw [HII.out.ow]; exact ⟨rfl, by simp⟩)))
        clear c0 c12 hW9 hR9 hO9 hE9
        have cB := hJ9.cell
        go_wp2_with fail
        refine (HZ.out _).mono ?_
        rintro e w10 ⟨rfl, hb10⟩
        clear cB
        go_wp2_with fail
        refine (HN.out _).mono ?_
        rintro e w11 ⟨rfl, hb11⟩
        have hI11 := (hI9.below hb10).below hb11
        have hS11 := (hS9.trans (Stp.of_below hb10)).trans (Stp.of_below hb11)
        clear hI9 hb10 hb11 hS9 hJ9
        have c12 := hI11.c12
        have z12 := hI11.hb.free 12
        have s12 := hI11.hb.lt
        simp only [hsc] at c12
        rw [hsz] at hsbI
        have hfin := Lib.hid (show Mvd w o l { Hk with cur := up Hk.cur H.scan (ob.setStrong ps), scan := H.scan + rnd ob.size } vo vw vf (w11.setCell ⟨l.h, 12, none⟩ (.int .i64 ((H.scan : Int) + (rnd (3 + ob.shp.p + ob.shp.d) : Nat)))) from by
          have e1 : ((H.scan : Int) + (rnd (3 + ob.shp.p + ob.shp.d) : Nat)) = ((H.scan + rnd ob.size : Nat) : Int) := by rw [hsz]; omega
          rw [e1]
          have hb := hI11.hb.set 12 (.int .i64 ((H.scan + rnd ob.size : Nat) : Int))
          rw [cells_scan] at hb
          exact ⟨vc', f9, o', hI11.hdr hb ((Stp.refl _ o' w11).setCell (by exact hI11.oh) _) rfl rfl rfl rfl rfl rfl, HS0.out.trans (hS11.setCell (by show hTag l (o' l.h); rw [hI11.oh]; exact ⟨rfl, by simp⟩) _)⟩)
        clear hI11 hS11 hsz
        go_wp2_with fail
        go_ret
        exact ⟨rfl, by rw [HRr.out]; exact hfin.out⟩
theorem scan_no (h:HpIn w o l H vc vo vw vf f)(hm:H.moving=false∨H.scan=H.top) :
  Calls Tryz.prog 129 #[.pointer (some ⟨l.h,0,none⟩)] w fun e w'=>e=.returned (.bool false)∧Below w.heap.size w w':=by
 have HM:=moving_any h;have HD:=scanned_any h;rcases hm with hm|hm
 ·rw[hm]at HM
  replace HM:=Lib.hid HM;clear h hm HD;go_enter Tryz.func129,Tryz.ntmps129;go_wp2_with fail;refine HM.out.mono ?_
  rintro e w1 ⟨rfl,rfl⟩
  go_wp2_with fail;go_ret;exact⟨rfl,bsame _⟩
 ·rw[decide_eq_true hm]at HD
  generalize H.moving=mv at HM;replace HM:=Lib.hid HM;replace HD:=Lib.hid HD;clear h hm
  cases mv
  ·go_enter Tryz.func129,Tryz.ntmps129
   go_wp2_with fail;refine HM.out.mono ?_
   rintro e w1 ⟨rfl,rfl⟩
   go_wp2_with fail;go_ret;exact⟨rfl,bsame _⟩
  ·go_enter Tryz.func129,Tryz.ntmps129
   go_wp2_with fail;refine HM.out.mono ?_
   rintro e w1 ⟨rfl,rfl⟩
   go_wp2_with fail;refine HD.out.mono ?_
   rintro e w1 ⟨rfl,hb⟩
   go_wp2_with fail;go_ret;exact⟨rfl,hb⟩
theorem scan_any (h:HpIn w o l H vc vo vw vf f)(hw:H.wf) :
  Calls Tryz.prog 129 #[.pointer (some ⟨l.h,0,none⟩)] w fun e w'=>e=.returned (.bool H.scan1.2)∧Mvd w o l H.scan1.1 vo vw vf w':=by
 by_cases hm:H.moving=false∨H.scan=H.top
 ·have e1:H.scan1=(H,false):=by unfold Hp.scan1;rw[if_pos hm]
  rw[e1];exact (scan_no h hm).mono fun _ _ ⟨a,b⟩=>⟨a,h.mvd_below b⟩
 ·refine scan_go h hw ?_ fun e=>hm (.inr e)
  cases hmm:H.moving
  ·exact absurd (.inl hmm) hm
  ·rfl
end
theorem len40 {n:Nat}(h:n≤1099511627776):n+1≤maxLen∧(n+1)*8≤140737488355328:=by
 simp only[maxLen];omega
def T2 (t:Tag):Prop:=t=(1,0)∨t=(2,0)
def o00:Own:=fun _=>(0,0)
theorem T2.below {w w':World}{o':Own}(h:Stp T2 o00 o' w w'):Below w.heap.size w w':=h.below fun b _ hh=>by rcases hh with hh|hh<;>simp[o00]at hh
def mix (o o':Own)(n:Nat)(t1 t2:Tag):Own:=fun b=>if b<n then o b else if o' b=(1,0) then t1 else t2
theorem mix_lt {o o':Own}{n b:Nat}{t1 t2:Tag}(h:b<n):mix o o' n t1 t2 b=o b:=by unfold mix;rw[if_pos h]
theorem Row.mix1 {w w':World}{o':Own}{e:TypeId}{size k:Nat}{v:Value}{xs:List Value}(hs:Stp T2 o00 o' w w')(h:Row w' o' (1,0) e size v k xs)(o:Own)(t1 t2:Tag):Row w' (mix o o' w.heap.size t1 t2) t1 e size v k xs:=by
 refine⟨h.own,fun b hb=>?_⟩
 have h1:=h.tag b hb;unfold mix;rw[if_neg,if_pos h1];intro h2;rw[hs.tags b h2]at h1;simp[o00]at h1
theorem Row.mix2 {w w':World}{o':Own}{e:TypeId}{size k:Nat}{v:Value}{xs:List Value}(hs:Stp T2 o00 o' w w')(h:Row w' o' (2,0) e size v k xs)(o:Own)(t1 t2:Tag):Row w' (mix o o' w.heap.size t1 t2) t2 e size v k xs:=by
 refine⟨h.own,fun b hb=>?_⟩
 have h1:=h.tag b hb;unfold mix;rw[if_neg,if_neg]
 ·rw[h1];simp
 ·intro h2
  rw[hs.tags b h2]at h1;simp[o00]at h1
theorem Row.mix2_ge {w w':World}{o':Own}{e:TypeId}{size k:Nat}{v:Value}{xs:List Value}(hs:Stp T2 o00 o' w w')(h:Row w' o' (2,0) e size v k xs):∀ b,v.ownBlock=some b→w.heap.size≤b:=fun b hb=>by
 have h1:=h.tag b hb;refine Nat.le_of_not_lt fun h2=>?_
 rw[hs.tags b h2]at h1;simp[o00]at h1
theorem stay_snoc (H:Hp)(l:List Nat)(p:Nat):H.stay (l++[p])=H.stay l++(match H.nowAt p with|some q=>[q]|none=>[]):=by
 unfold Hp.stay;rw[List.filterMap_append]
 cases h:H.nowAt p<;>simp[h]
theorem gone_snoc (H:Hp)(l:List Nat)(p:Nat):H.gone' (l++[p])=H.gone' l++(match H.nowAt p with|some _=>[]|none=>[p]):=by
 unfold Hp.gone';rw[List.filter_append]
 cases h:H.nowAt p<;>simp[h]
section
variable {w w' : World} {o : Own} {l : HLay} {H : Hp} {vc vo vw vf : Value} {f : Nat → Nat}
theorem at_left (h:HpIn w o l H vc vo vw vf f)(hk:H.ok){p:Nat}{ob:Ob}(hp:lko H.old p=some (ob,none)) :
  Calls Tryz.prog 181 #[.pointer (some ⟨l.a,0,none⟩),.int .i64 p] w fun e w'=>e=.returned (.tuple #[.int .i64 0,.bool false])∧w=w':=by
 obtain⟨ho,_,_,hl⟩:=old_ob hk hp;exact mat_ob h.wds ((h.olds _ (lko_mem hp)).1 rfl) ho hl
theorem at_went (h:HpIn w o l H vc vo vw vf f)(hk:H.ok){p q:Nat}{ob:Ob}(hp:lko H.old p=some (ob,some q)) :
  Calls Tryz.prog 181 #[.pointer (some ⟨l.a,0,none⟩),.int .i64 p] w fun e w'=>e=.returned (.tuple #[.int .i64 q,.bool true])∧w=w':=by
 obtain⟨ho,_,_,hl⟩:=old_ob hk hp;have hs:=Ob.size_bd ho;have hq:=hk.gone _ (lko_mem hp) q rfl;exact mat_gone h.wds (by omega) q hq.1 hq.2 ((h.olds _ (lko_mem hp)).2 q rfl)
theorem settle_any (h:HpIn w o l H vc vo vw vf f)(hk:H.ok)(ps:List Nat)(hps:ps.length≤1099511627776){v:Value}(hv:Ints w v ps) :
  Calls Tryz.prog 241 #[.pointer (some ⟨l.h,0,none⟩),v] w fun e w'=>∃ v1 v2 o',e=.returned (.tuple #[v1,v2]) ∧
   Row w' o' (1,0) 3 1 v1 (H.stay ps).length ((H.stay ps).map nv)∧Row w' o' (2,0) 3 1 v2 (H.gone' ps).length ((H.gone' ps).map nv)∧Stp T2 o00 o' w w':=by
 have HI:=Lib.hid h;have HK:=Lib.hid hk;have HV:=Lib.hid (fun w' (hb:Below w.heap.size w w')=>hv.below hb)
 have HPS:=Lib.hid hps;obtain⟨va,vcp,rfl⟩:∃ a c,v=.slice a ps.length c:=by
  obtain⟨a',c',e,_⟩:=hv;exact⟨a',c',e⟩
 obtain⟨n,hn⟩:∃ n:Nat,n=ps.length:=⟨_,rfl⟩;have HN:=Lib.hid hn;rw[←hn]at HV hps ⊢;have hnI:(n:Int)≤1099511627776:=by omega
 obtain⟨iI,hi,hsI,hyI,hzI⟩:=info_int;have hu64:=Tryz.underlying25;clear h hk hv hps hn;go_enter Tryz.func241,Tryz.ntmps241;go_wp2_with fail;go_loopw [4,5,12] (fun a b ix wr=>∃ (k:Nat)(o':Own),ix=.int .i64 k∧k≤n∧Row wr o' (1,0) 3 1 a (H.stay (ps.take k)).length ((H.stay (ps.take k)).map nv)∧Row wr o' (2,0) 3 1 b (H.gone' (ps.take k)).length ((H.gone' (ps.take k)).map nv)∧Stp T2 o00 o' w wr) (fun _ _ ix _=>n-(intOf ix).toNat)
 case atStart=>exact⟨0,o00,rfl,by omega,Row.nil _ _ _ _ _,Row.nil _ _ _ _ _,Stp.refl _ _ _⟩
 case round =>
  obtain⟨k,o',rfl,hkn,hr1,hr2,hS⟩:=hrel;by_cases hlt:k<n
  ·have hkI:(k:Int)<(n:Int):=by omega
   have hk40:(k:Int)<1099511627776:=by omega
   obtain⟨x,hx⟩:∃ x,ps[k]?=some x:=⟨_,List.getElem?_eq_getElem (by rw[←HN.out];omega)⟩
   have htk:=take_snoc_get hx;have hbr:=T2.below hS;have hst:=stay_snoc H (ps.take k) x;have hgn:=gone_snoc H (ps.take k) x;rw[←htk]at hst hgn;have hsl:=stay_len H (ps.take k);have htl:(ps.take k).length=k:=by rw[List.length_take,←HN.out];omega
   have hTh:=there_any (HI.out.below hbr) HK.out x;rcases (HV.out wr hbr).form with ⟨e1,_⟩|⟨g,off,c,e1,hnc,hcm,hg,hcell⟩
   ·rw[e1]at hx;simp at hx
   ·injection e1 with e1 e2 e3
    subst e1 e3;clear e2;have cx:wr.cell? ⟨g,off+k,none⟩=some (.int .i64 x):=hcell k x hx;have hlen1:(H.stay (ps.take k)).length≤1099511627776∧(H.gone' (ps.take k)).length≤1099511627776:=by have:=HPS.out;have:=HN.out;omega
    obtain⟨hlen1,hlen2⟩:=hlen1;have HL1:=Lib.hid (len40 hlen1);have HL2:=Lib.hid (len40 hlen2);have HS:=Lib.hid hS;have HR1:=Lib.hid hr1;have HR2:=Lib.hid hr2;obtain⟨pa1,cp1,rfl⟩:=hr1.slc;obtain⟨pa2,cp2,rfl⟩:=hr2.slc;unfold Hp.nowAt at hst hgn;clear hcell hsl htl htk hS hr1 hr2 hlen1 hlen2
    cases ho:lko H.old x with
    | none =>
     rw[ho]at hTh hst hgn;have HTh:=Lib.hid hTh;have HSt:=Lib.hid hst;have HGn:=Lib.hid hgn;clear hTh hst hgn ho hx;go_wp2_with fail;refine HTh.out.mono ?_
     rintro e w3 ⟨rfl,hb3⟩
     go_wp2_with (first|(at_builtin;refine wpList_append_row _ rfl _ _ _ rfl 3 iI _ 1 8 hu64 hi hzI hsI hyI rfl (by decide) o' (1,0) _ _ _ rfl (Row.below (Row.below HR1.out hb3) (balloc (bsame w3) _)) ⟨w3.heap.size,0,none⟩ 1 1 [.int .i64 x] rfl rfl (news_one (Blk.new w3 _ _)) one_i64 HL1.out.1 HL1.out.2 ?_;intro v' w8 hown hst;obtain⟨pa8,cp8,rfl⟩:=hown.slc)|fail)
     have hS3:Stp T2 o00 o' w (w3.alloc (.cells #[.int .i64 x] 3)):=(HS.out.trans (Stp.of_below hb3)).trans (Stp.of_below (balloc (bsame w3) _));have hS8:=hS3.trans (hst.mono fun _ e=>Or.inl e)
     have hR2:=(Row.below (Row.below HR2.out hb3) (balloc (bsame w3) (.cells #[.int .i64 x] 3))).stp hst (by simp)
     go_roundw
     case rel=>exact⟨k+1,_,by simp,by omega,by rw[HSt.out,List.length_append,map_snoc_nv];exact hown,by rw[HGn.out];simpa using hR2,hS8⟩
     case measure=>simp[intOf];omega
    | some z =>
     obtain⟨ob,gq⟩:=z;rw[ho]at hTh hst hgn;have HTh:=Lib.hid hTh;have HSt:=Lib.hid hst;have HGn:=Lib.hid hgn;have HC0:=Lib.hid (fun w4 (hb:Below w.heap.size w w4)=>(HI.out.below hb).c0)
     cases gq with
     | none =>
      have HAt:=Lib.hid (fun w4 (hb:Below w.heap.size w w4)=>at_left (HI.out.below hb) HK.out ho)
      clear hTh hst hgn ho hx;go_wp2_with fail;refine HTh.out.mono ?_
      rintro e w3 ⟨rfl,hb3⟩
      have c0:=HC0.out _ (btrans hbr hb3);go_wp2_with fail;refine (HAt.out _ (btrans hbr hb3)).mono ?_
      rintro e w4 ⟨rfl,rfl⟩
      clear c0;go_wp2_with (first|(at_builtin;refine wpList_append_row _ rfl _ _ _ rfl 3 iI _ 1 8 hu64 hi hzI hsI hyI rfl (by decide) o' (2,0) _ _ _ rfl (Row.below (Row.below HR2.out hb3) (balloc (bsame w3) _)) ⟨w3.heap.size,0,none⟩ 1 1 [.int .i64 x] rfl rfl (news_one (Blk.new w3 _ _)) one_i64 HL2.out.1 HL2.out.2 ?_;intro v' w8 hown hst;obtain⟨pa8,cp8,rfl⟩:=hown.slc)|fail)
      have hS3:Stp T2 o00 o' w (w3.alloc (.cells #[.int .i64 x] 3)):=(HS.out.trans (Stp.of_below hb3)).trans (Stp.of_below (balloc (bsame w3) _));have hS8:=hS3.trans (hst.mono fun _ e=>Or.inr e)
      have hR1:=(Row.below (Row.below HR1.out hb3) (balloc (bsame w3) (.cells #[.int .i64 x] 3))).stp hst (by simp)
      go_roundw
      case rel=>exact⟨k+1,_,by simp,by omega,by rw[HSt.out];simpa using hR1,by rw[HGn.out,List.length_append,map_snoc_nv];exact hown,hS8⟩
      case measure=>simp[intOf];omega
     | some q =>
      have HAt:=Lib.hid (fun w4 (hb:Below w.heap.size w w4)=>at_went (HI.out.below hb) HK.out ho)
      clear hTh hst hgn ho hx;go_wp2_with fail;refine HTh.out.mono ?_
      rintro e w3 ⟨rfl,hb3⟩
      have c0:=HC0.out _ (btrans hbr hb3);go_wp2_with fail;refine (HAt.out _ (btrans hbr hb3)).mono ?_
      rintro e w4 ⟨rfl,rfl⟩
      clear c0;go_wp2_with (first|(at_builtin;refine wpList_append_row _ rfl _ _ _ rfl 3 iI _ 1 8 hu64 hi hzI hsI hyI rfl (by decide) o' (1,0) _ _ _ rfl (Row.below (Row.below HR1.out hb3) (balloc (bsame w3) _)) ⟨w3.heap.size,0,none⟩ 1 1 [.int .i64 q] rfl rfl (news_one (Blk.new w3 _ _)) one_i64 HL1.out.1 HL1.out.2 ?_;intro v' w8 hown hst;obtain⟨pa8,cp8,rfl⟩:=hown.slc)|fail)
      have hS3:Stp T2 o00 o' w (w3.alloc (.cells #[.int .i64 q] 3)):=(HS.out.trans (Stp.of_below hb3)).trans (Stp.of_below (balloc (bsame w3) _));have hS8:=hS3.trans (hst.mono fun _ e=>Or.inl e)
      have hR2:=(Row.below (Row.below HR2.out hb3) (balloc (bsame w3) (.cells #[.int .i64 q] 3))).stp hst (by simp)
      go_roundw
      case rel=>exact⟨k+1,_,by simp,by omega,by rw[HSt.out,List.length_append,map_snoc_nv];exact hown,by rw[HGn.out];simpa using hR2,hS8⟩
      case measure=>simp[intOf];omega
  ·obtain rfl:k=n:=by omega
   rw[HN.out,List.take_length]at hr1 hr2;go_wp2_with fail;go_ret2;exact⟨_,_,o',rfl,hr1,hr2,hS⟩
end
section
variable {w w' : World} {o : Own} {l : HLay} {H : Hp} {vc vo vw vf : Value} {f : Nat → Nat}
theorem cells_final (H:Hp)(a:Nat)(vc vo vw vf v:Value)(ps:List Nat):(H.cells a vc vo vw vf).setIfInBounds 15 v={ H with final:=ps }.cells a vc vo vw v:=by
 unfold Hp.cells;cases H.use<;>rfl
theorem cells_weak (H:Hp)(a:Nat)(vc vo vw vf v:Value)(ps:List Nat):(H.cells a vc vo vw vf).setIfInBounds 14 v={ H with weak:=ps }.cells a vc vo v vf:=by
 unfold Hp.cells;cases H.use<;>rfl
theorem HpIn.setFinal (h:HpIn w o l H vc vo vw vf f){v:Value}{ps:List Nat}(hr:Row w o (l.id,6) 3 1 v ps.length (ps.map nv)):HpIn (w.setCell ⟨l.h,15,none⟩ v) o l { H with final:=ps } vc vo vw v f:=by
 have hs:=(Stp.refl (fun t=>t=(l.id,0)) o w).setCell (a:=⟨l.h,15,none⟩) h.oh v
 have hn:∀ j,j≠0→¬(l.id,j)=(l.id,0):=fun j hj e=>hj (by simpa using e)
 have hb:=h.hb.set 15 v;rw[cells_final _ _ _ _ _ _ _ ps]at hb;exact⟨hb,h.wds.stp hs (by rw[h.oa];exact hn _ (by omega)) (by rw[h.ow];exact hn _ (by omega)),h.rc.stp hs (hn _ (by split<;>omega)),h.ro.stp hs (hn _ (by split<;>omega)),h.rw.stp hs (hn _ (by omega)),hr.stp hs (hn _ (by omega)),h.oh,h.oa,h.ow,h.obs,h.olds,h.zr⟩
theorem HpIn.setWeak (h:HpIn w o l H vc vo vw vf f){v:Value}{ps:List Nat}(hr:Row w o (l.id,5) 3 1 v ps.length (ps.map nv)):HpIn (w.setCell ⟨l.h,14,none⟩ v) o l { H with weak:=ps } vc vo v vf f:=by
 have hs:=(Stp.refl (fun t=>t=(l.id,0)) o w).setCell (a:=⟨l.h,14,none⟩) h.oh v
 have hn:∀ j,j≠0→¬(l.id,j)=(l.id,0):=fun j hj e=>hj (by simpa using e)
 have hb:=h.hb.set 14 v;rw[cells_weak _ _ _ _ _ _ _ ps]at hb;exact⟨hb,h.wds.stp hs (by rw[h.oa];exact hn _ (by omega)) (by rw[h.ow];exact hn _ (by omega)),h.rc.stp hs (hn _ (by split<;>omega)),h.ro.stp hs (hn _ (by split<;>omega)),hr.stp hs (hn _ (by omega)),h.rf.stp hs (hn _ (by omega)),h.oh,h.oa,h.ow,h.obs,h.olds,h.zr⟩
theorem HpIn.c14 (h:HpIn w o l H vc vo vw vf f):w.cell? ⟨l.h,14,none⟩=some vw:=by rw[h.hb.cell];unfold Hp.cells;split<;>rfl
theorem HpIn.c15 (h:HpIn w o l H vc vo vw vf f):w.cell? ⟨l.h,15,none⟩=some vf:=by rw[h.hb.cell];unfold Hp.cells;split<;>rfl
def FinLeft (w:World)(o:Own)(l:HLay)(H':Hp)(ps:List Nat)(vo vw:Value)(e:Ending)(w':World):Prop:=
 ∃ v vc' vf' f' o',e=.returned v∧HpIn w' o' l H' vc' vo vw vf' f'∧Stp (hTag l) o o' w w'∧Row w' o' (bxH l) 3 1 v ps.length (ps.map nv)
theorem finals_go (h:HpIn w o l H vc vo vw vf f)(hw:H.wf)(hm:H.moving=true) :
  Calls Tryz.prog 189 #[.pointer (some ⟨l.h,0,none⟩)] w (FinLeft w o l H.finals.1 H.finals.2 vo vw):=by
 have e0:H.finals=Hp.movedL { H with final:=H.stay H.final } (H.gone' H.final):=by unfold Hp.finals;rw[hm];simp
 rw[e0];have hsl:=stay_len H H.final;have hfl:=hw.fl;have hse:=hw.ok.ser;have hw1:Hp.wf { H with final:=H.stay H.final }:=finals_of_wf hw (by omega)
 have HM:=moving_any h;rw[hm]at HM;replace HM:=Lib.hid HM;have HS:=Lib.hid (settle_any h hw.ok H.final (by omega) (by exact h.rf.ints))
 have HI:=Lib.hid h;have c15:=h.c15;generalize hps:H.gone' H.final=ps at *;generalize hst:H.stay H.final=st at *;have hn40:ps.length≤1099511627776:=by omega
 obtain⟨H1,hH1⟩:∃ H1:Hp,H1={ H with final:=st }:=⟨_,rfl⟩;have HH1:=Lib.hid hH1;rw[←hH1]at hw1 ⊢;have HW:=Lib.hid hw1;obtain⟨n,hn⟩:∃ n,n=ps.length:=⟨_,rfl⟩;have HN:=Lib.hid hn;rw[←hn]at hn40;have hnI:(n:Int)≤1099511627776:=by omega
 clear h hw hm hsl hfl hse hw1 hps hst hH1 hn e0;go_enter Tryz.func189,Tryz.ntmps189;go_wp2_with fail;refine HM.out.mono ?_
 rintro e w1 ⟨rfl,rfl⟩
 go_wp2_with fail;refine HS.out.mono ?_
 rintro e w1 ⟨v1,v2,o',rfl,hr1,hr2,hs1⟩
 have hb1:=T2.below hs1;have hge:=Row.mix2_ge hs1 hr2;have hr1:=hr1.mix1 hs1 o (l.id,6) (bxH l);have hr2:=hr2.mix2 hs1 o (l.id,6) (bxH l);obtain⟨o1,ho1⟩:∃ o1,o1=mix o o' w.heap.size (l.id,6) (bxH l):=⟨_,rfl⟩;rw[←ho1]at hr1 hr2;have ht1:∀ b,b<w.heap.size→o1 b=o b:=fun b hb=>by rw[ho1];exact mix_lt hb
 have hI1:HpIn w1 o1 l H vc vo vw vf f:=(HI.out.retag ht1).below hb1;have hS1:Stp (hTag l) o o1 w w1:=⟨hb1.os,hb1.tape,hb1.output,hb1.size,ht1,fun b hb _=>hb1.block b hb⟩
 clear ho1 hs1 ht1 c15;have c15:=hI1.c15;have z15:=hI1.hb.free 15;have s15:=hI1.hb.lt;obtain⟨pa,cp,rfl⟩:=hr2.slc;obtain⟨pa1,cp1,rfl⟩:=hr1.slc;go_upto_region 5 with fail;obtain⟨W,hW⟩:∃ W,W=w1.setCell ⟨l.h,15,none⟩ (.slice pa1 st.length cp1):=⟨_,rfl⟩;have hIW:HpIn W o1 l H1 vc vo vw (.slice pa1 st.length cp1) f:=by rw[hW,HH1.out];exact hI1.setFinal hr1
 have hs0:Stp (fun t=>t=(l.id,0)) o1 o1 w1 W:=by rw[hW];exact (Stp.refl _ o1 w1).setCell hI1.oh _
 have hSW:Stp (hTag l) o o1 w W:=hS1.trans (hs0.mono (by rintro _ rfl;exact⟨rfl,by simp⟩))
 have hrW:=hr2.stp hs0 (by simp)
 rw[←hW];rw[←HN.out]at hrW hge ⊢;have hrW':Row W o1 (bxH l) 3 1 (.slice pa n cp) n (((H1.movedL (ps.take 0)).2++ps.drop 0).map nv):=by simpa [Hp.movedL] using hrW
 have HGe:=Lib.hid hge;clear hW hs0 hr1 hr2 hI1 hS1 hb1 c15 z15 s15 hrW hge;go_wp2_with fail;go_loopw [25] (fun ix wr=>∃ (k:Nat)(vc':Value)(f':Nat→Nat)(o':Own),ix=.int .i64 k∧k≤n∧HpIn wr o' l (H1.movedL (ps.take k)).1 vc' vo vw (.slice pa1 st.length cp1) f'∧Stp (hTag l) o o' w wr∧Row wr o' (bxH l) 3 1 (.slice pa n cp) n (((H1.movedL (ps.take k)).2++ps.drop k).map nv)) (fun ix _=>n-(intOf ix).toNat)
 case atStart=>exact⟨0,vc,f,o1,rfl,by omega,hIW,hSW,hrW'⟩
 case round =>
  obtain⟨k,vc',f',o',rfl,hkn,hI,hS,hR⟩:=hrel;clear hIW hSW hrW';by_cases hlt:k<n
  ·have hkI:(k:Int)<(n:Int):=by omega
   have hk8:(k:Int)<1099511627776:=by omega
   obtain⟨x,hx⟩:∃ x,ps[k]?=some x:=⟨_,List.getElem?_eq_getElem (by rw[←HN.out];omega)⟩
   have htk:=take_snoc_get hx;have hdr:ps.drop k=x::ps.drop (k+1):=by
    obtain⟨h1,h2⟩:=(List.getElem?_eq_some_iff.1 hx);rw[←h2];exact List.drop_eq_getElem_cons h1
   have hwk:=(Hp.movedL_wf (ps.take k) HW.out).ok;have hsn:=movedL_snoc (ps.take k) x H1;rw[←htk]at hsn;have hlen:(H1.movedL (ps.take k)).2.length=k:=by rw[movedL_len,List.length_take,←HN.out];omega
   have HSn:=Lib.hid hsn;rw[hdr]at hR;generalize H1.movedL (ps.take k)=r at *;obtain⟨Hk,lk'⟩:=r;simp only at hI hR hwk hlen HSn;rcases hR.shape with ⟨_,h0⟩|⟨g,c,e1,hnc,hcm⟩
   ·omega
   ·injection e1 with e1 _ e3
    subst e1 e3;have hset:(lk'++x::ps.drop (k+1)).set k (Hk.moved x).2=(lk'++[(Hk.moved x).2])++ps.drop (k+1):=by
     have:=set_mid lk' (ps.drop (k+1)) x (Hk.moved x).2;rwa [hlen]at this
    have cx:wr.cell? ⟨g,k,none⟩=some (.int .i64 x):=by
     refine hR.cells k _ ?_;rw[List.getElem?_map,List.getElem?_append_right (by omega),hlen];simp[nv]
    have HMv:=Lib.hid (moved_any hI hwk x);have HSet:=Lib.hid hset;have HSS:=Lib.hid hS;have HR:=Lib.hid hR;have hgl:=hR.blt;clear hsn hdr htk hset hwk hlen hx hI hS hR;go_wp2_with fail;refine HMv.out.mono ?_
    rintro e w7 ⟨rfl,vc7,f7,o7,hI7,hS7⟩
    have hR7:=HR.out.stp hS7 (bxH_no l);have z7:=hR7.free k;have s7:=hR7.blt;obtain⟨u7,c7⟩:∃ u,w7.cell? ⟨g,k,none⟩=some u:=by
     have h1:k<(List.map nv (lk'++x::ps.drop (k+1))).length:=by rw[hR7.len];omega
     exact⟨_,hR7.cells k _ (List.getElem?_eq_getElem h1)⟩
    have hfin:=Lib.hid (show ∃ (vc':Value)(f':Nat→Nat)(o':Own),HpIn (w7.setCell ⟨g,k,none⟩ (.int .i64 (Hk.moved x).2)) o' l (H1.movedL (ps.take (k+1))).1 vc' vo vw (.slice pa1 st.length cp1) f'∧Stp (hTag l) o o' w (w7.setCell ⟨g,k,none⟩ (.int .i64 (Hk.moved x).2))∧Row (w7.setCell ⟨g,k,none⟩ (.int .i64 (Hk.moved x).2)) o' (bxH l) 3 1 (.slice (some ⟨g,0,none⟩) n cp) n (((H1.movedL (ps.take (k+1))).2++ps.drop (k+1)).map nv) from by
     rw[HSn.out];refine⟨vc7,f7,o7,hI7.boxed hR7.otag _,?_,?_⟩
     ·exact (HSS.out.trans hS7).setCell_new (HGe.out g rfl) _
     ·have:=hR7.put1 k (.int .i64 (Hk.moved x).2)
      rw[show (Value.int IntKind.i64 ((Hk.moved x).2:Nat))=nv (Hk.moved x).2 from rfl,←List.map_set,HSet.out]at this;exact this)
    clear hR7 hS7 hI7;go_wp2_with fail;obtain⟨vc8,f8,o8,g1,g2,g3⟩:=hfin.out;go_roundw
    case rel=>exact⟨k+1,vc8,f8,o8,by simp,by omega,g1,g2,g3⟩
    case measure=>simp[intOf];omega
  ·obtain rfl:k=n:=by omega
   have hfin:=Lib.hid (show FinLeft w o l (H1.movedL ps).1 (H1.movedL ps).2 vo vw (.returned (.slice pa k cp)) wr from by
    rw[HN.out,List.take_length]at hI;rw[HN.out,List.take_length,List.drop_length,List.append_nil,←HN.out]at hR;exact⟨_,vc',_,f',o',rfl,hI,hS,by rw[movedL_len,←HN.out];exact hR⟩)
   clear hI hS hR;go_wp2_with fail;go_ret;exact hfin.out
theorem finals_any (h:HpIn w o l H vc vo vw vf f)(hw:H.wf) :
  Calls Tryz.prog 189 #[.pointer (some ⟨l.h,0,none⟩)] w (FinLeft w o l H.finals.1 H.finals.2 vo vw):=by
 cases hm:H.moving with
 | true=>exact finals_go h hw hm
 | false =>
  have e0:H.finals=(H,[]):=by unfold Hp.finals;rw[hm];simp
  rw[e0];have HM:=moving_any h;rw[hm]at HM;replace HM:=Lib.hid HM;have hfin:=Lib.hid (show FinLeft w o l H [] vo vw (.returned (.slice none 0 0)) w from ⟨_,vc,vf,f,o,rfl,h,Stp.refl _ _ _,Row.nil _ _ _ _ _⟩);clear h hw hm e0;go_enter Tryz.func189,Tryz.ntmps189;go_wp2_with fail;refine HM.out.mono ?_
  rintro e w1 ⟨rfl,rfl⟩
  go_wp2_with fail;go_ret;exact hfin.out
end
def solo (v:Value):Own:=fun b=>if v.ownBlock=some b then (1,0) else (0,0)
theorem Row.solo {w:World}{o:Own}{t:Tag}{e:TypeId}{size n:Nat}{v:Value}{xs:List Value}(h:Row w o t e size v n xs):Row w (solo v) (1,0) e size v n xs:=
 ⟨h.own,fun k hk=>by unfold Go.Proofs.YteehgedabdchcaaGreat.solo;rw[if_pos hk]⟩
theorem Row.regrow {w wr w8:World}{o o':Own}{T:Tag→Prop}{tg:Tag}{e:TypeId}{size n n':Nat}{v v':Value}{xs xs':List Value}(hr:Row wr o' tg e size v n xs)
  (hown:Row w8 (ext (Go.Proofs.YteehgedabdchcaaGreat.solo v) wr.heap.size (1,0)) (1,0) e size v' n' xs')(hst:Stp (fun t=>t=(1,0)) (Go.Proofs.YteehgedabdchcaaGreat.solo v) (ext (Go.Proofs.YteehgedabdchcaaGreat.solo v) wr.heap.size (1,0)) wr w8)
  (hS:Stp T o o' w wr)(hge:∀ b,v.ownBlock=some b→w.heap.size≤b) :
  Row w8 (ext o' wr.heap.size tg) tg e size v' n' xs'∧Stp (fun t=>t=tg) o' (ext o' wr.heap.size tg) wr w8∧Stp T o (ext o' wr.heap.size tg) w w8∧∀ b,v'.ownBlock=some b→w.heap.size≤b:=by
 have h0:∀ k,v'.ownBlock=some k→k<wr.heap.size→v.ownBlock=some k:=fun k hk hlt=>by
  have h1:=hown.tag k hk;rw[ext_lt hlt]at h1;unfold Go.Proofs.YteehgedabdchcaaGreat.solo at h1;split at h1
  ·assumption
  ·simp at h1
 have hbl:∀ b,b<wr.heap.size→v.ownBlock≠some b→w8.heap[b]?=wr.heap[b]?:=fun b hb hn=>hst.block b hb (by unfold Go.Proofs.YteehgedabdchcaaGreat.solo;rw[if_neg hn];simp)
 refine⟨⟨hown.own,fun k hk=>?_⟩,⟨hst.os,hst.tape,hst.output,hst.size,fun b hb=>ext_lt hb,fun b hb hn=>hbl b hb fun h=>hn (hr.tag b h)⟩,⟨hst.os.trans hS.os,hst.tape.trans hS.tape,hst.output.trans hS.output,Nat.le_trans hS.size hst.size,fun b hb=>(ext_lt (Nat.lt_of_lt_of_le hb hS.size)).trans (hS.tags b hb),fun b hb hn=>?_⟩,fun b hb=>?_⟩
 ·rcases Nat.lt_or_ge k wr.heap.size with h|h
  ·rw[ext_lt h];exact hr.tag k (h0 k hk h)
  ·exact ext_ge h
 ·refine (hbl b (Nat.lt_of_lt_of_le hb hS.size) fun h=>?_).trans (hS.block b hb hn)
  have:=hge b h;omega
 ·rcases Nat.lt_or_ge b wr.heap.size with h|h
  ·exact hge b (h0 b hb h)
  ·exact Nat.le_trans hS.size h
theorem dropL_snoc:∀ (l:List Nat)(p:Nat)(H:Hp),H.dropL (l++[p])=(((H.dropL l).1.drop1 p).1,(H.dropL l).2++((H.dropL l).1.drop1 p).2)
 | [],p,H=>by show ((H.drop1 p).1,(H.drop1 p).2++[])=((H.drop1 p).1,[]++(H.drop1 p).2);simp
 | q::l,p,H=>by
  have:=dropL_snoc l p (H.drop1 q).1;show ((((H.drop1 q).1.dropL (l++[p])).1,(H.drop1 q).2++((H.drop1 q).1.dropL (l++[p])).2):Hp×List Nat)=(((((H.drop1 q).1.dropL l).1.drop1 p)).1,((H.drop1 q).2++((H.drop1 q).1.dropL l).2)++(((H.drop1 q).1.dropL l).1.drop1 p).2);rw[this,List.append_assoc]
theorem drop1_len (H:Hp)(p:Nat):(H.drop1 p).2.length≤1:=by
 unfold Hp.drop1
 (repeat' split)<;>simp
theorem dropL_len:∀ (l:List Nat)(H:Hp),(H.dropL l).2.length≤l.length
 | [],_=>Nat.le_refl _
 | p::l,H=>by
  have h1:=drop1_len H p;have h2:=dropL_len l (H.drop1 p).1;show ((H.drop1 p).2++((H.drop1 p).1.dropL l).2).length≤l.length+1;rw[List.length_append];omega
section
variable {w w' : World} {o : Own} {l : HLay} {H : Hp} {vc vo vw vf : Value} {f : Nat → Nat}
theorem HpIn.bstp {o':Own}(h:HpIn w o l H vc vo vw vf f)(hs:Stp (fun t=>t=bxH l) o o' w w'):HpIn w' o' l H vc vo vw vf f:=by
 have hn:∀ j,¬(l.id,j)=bxH l:=fun j=>by simp
 exact⟨h.hb.stp hs (by rw[h.oh];exact hn _),h.wds.stp hs (by rw[h.oa];exact hn _) (by rw[h.ow];exact hn _),h.rc.stp hs (hn _),h.ro.stp hs (hn _),h.rw.stp hs (hn _),h.rf.stp hs (hn _),
  (hs.tags _ h.hb.lt).trans h.oh,(hs.tags _ h.wds.arena.lt).trans h.oa,(hs.tags _ h.wds.lt).trans h.ow,h.obs,h.olds,h.zr⟩
def DrL (w:World)(o:Own)(l:HLay)(H':Hp)(ps:List Nat)(vo vw vf:Value)(v:Value)(w':World):Prop:=
 ∃ vc' f' o',HpIn w' o' l H' vc' vo vw vf f'∧Stp (hTag l) o o' w w'∧Row w' o' (bxH l) 3 1 v ps.length (ps.map nv)∧∀ b,v.ownBlock=some b→w.heap.size≤b
end
section
variable {w w' : World} {o : Own} {l : HLay} {H : Hp} {vc vo vw vf : Value} {f : Nat → Nat}
theorem HpIn.rested (h:HpIn w o l H vc vo vw vf f){w':World}(hb:Blk w' l.h (H.rest.cells l.a vc (.slice none 0 0) vw vf) 185)(hs:Stp (fun t=>t=(l.id,0)) o o w w'):HpIn w' o l H.rest vc (.slice none 0 0) vw vf f:=by
 have hn:∀ j,j≠0→¬(l.id,j)=(l.id,0):=fun j hj e=>hj (by simpa using e)
 exact⟨hb,h.wds.stp hs (by rw[h.oa];exact hn _ (by omega)) (by rw[h.ow];exact hn _ (by omega)),h.rc.stp hs (hn _ (by split<;>omega)),Row.nil _ _ _ _ _,h.rw.stp hs (hn _ (by omega)),h.rf.stp hs (hn _ (by omega)),h.oh,h.oa,h.ow,h.obs,fun x hx=>(by cases hx),h.zr⟩
def DropLeft (w:World)(o:Own)(l:HLay)(H':Hp)(ps:List Nat)(ok:Bool)(e:Ending)(w':World):Prop:=
 ∃ v vc' vo' vw' vf' f' o',e=.returned (.tuple #[v,.bool ok])∧HpIn w' o' l H' vc' vo' vw' vf' f'∧Stp (hTag l) o o' w w'∧Row w' o' (bxH l) 3 1 v ps.length (ps.map nv)
theorem drop_go (h:HpIn w o l H vc vo vw vf f) (hw:H.wf) (hm:H.moving=true) (hsc:H.scan=H.top) :
  Calls Tryz.prog 242 #[.pointer (some ⟨l.h,0,none⟩)] w (DropLeft w o l H.drop.1 H.drop.2.1 H.drop.2.2):=by
 have e0:H.drop=((H.settled.dropL H.settled.weak).1.rest,(H.settled.dropL H.settled.weak).2,true):=by unfold Hp.drop;rw[if_neg (by rw[hm,hsc];simp)]
 rw[e0];clear e0;have hsl:=stay_len H H.weak;have hsl2:=stay_len H H.final;have hfl:=hw.fl;have hwl:=hw.wl;have hse:=hw.ok.ser;have hk:=hw.ok;have hw2:=Hp.settled_wf hw;have HM:=moving_any h;rw[hm]at HM;replace HM:=Lib.hid HM;have HD:=scanned_any h;rw[decide_eq_true hsc]at HD;replace HD:=Lib.hid HD;have HI:=Lib.hid h;have HS1:=Lib.hid (fun (W:World) (o1:Own) (h1:HpIn W o1 l H vc vo vw vf f)=>settle_any h1 hk H.weak (by omega) h1.rw.ints)
 have HS2:=Lib.hid (fun (W:World) (o1:Own) (vw1:Value) (h1:HpIn W o1 l { H with weak:=H.stay H.weak } vc vo vw1 vf f)=>settle_any h1 (H:={ H with weak:=H.stay H.weak }) ⟨hk.sz,hk.cl,hk.ck,hk.ol,hk.ok,hk.ot,hk.still,hk.owe,hk.room,hk.ser,hk.scn,hk.gone⟩ H.final (by omega) h1.rf.ints)
 have hstay:∀ q,({ H with weak:=H.stay H.weak }:Hp).stay q=H.stay q:=fun q=>rfl
 have hgone:∀ q,({ H with weak:=H.stay H.weak }:Hp).gone' q=H.gone' q:=fun q=>rfl
 simp only[hstay,hgone]at HS2;have HWk:=Lib.hid (fun p (hp:p ∈ H.stay H.weak)=>stay_wk hw hp)
 obtain⟨st,hst⟩:∃ st,st=H.stay H.weak:=⟨_,rfl⟩;obtain⟨sf,hsf⟩:∃ sf,sf=H.stay H.final:=⟨_,rfl⟩;obtain⟨H2,hH2⟩:∃ H2:Hp,H2=H.settled:=⟨_,rfl⟩;have HH2:=Lib.hid (show H2={ H with weak:=st,final:=sf } by rw[hH2,hst,hsf];rfl)
 have e1:H2.weak=st:=by rw[hH2,hst];rfl
 have e2:H2.cur=H.cur:=by rw[hH2];rfl
 rw[←hH2]at hw2 ⊢;rw[e1];rw[←hst]at HS1 HS2 HWk hsl;rw[←hsf]at HS2 hsl2;rw[←e2]at HWk;have HW:=Lib.hid hw2;have hn40:st.length≤1099511627776:=by omega
 obtain⟨n,hn⟩:∃ n,n=st.length:=⟨_,rfl⟩;have HN:=Lib.hid hn;rw[←hn]at hn40;have hnI:(n:Int)≤1099511627776:=by omega
 obtain⟨iI,hi,hsI,hyI,hzI⟩:=info_int;have hu64:=Tryz.underlying25;clear h hw hm hsc hsl hsl2 hfl hwl hse hk hw2 hstay hgone hst hsf hH2 hn e1 e2;go_enter Tryz.func242,Tryz.ntmps242;go_wp2_with fail;refine HM.out.mono ?_
 rintro e w1 ⟨rfl,rfl⟩
 go_wp2_with fail;refine HD.out.mono ?_
 rintro e w1 ⟨rfl,hb1⟩
 have hI0:=HI.out.below hb1;have c14:=hI0.c14;have HI0:=Lib.hid hI0;clear hI0;go_wp2_with fail;refine (HS1.out _ _ HI0.out).mono ?_
 rintro e w2 ⟨v1,v2,o',rfl,hr1,_,hs1⟩
 have hb2:=T2.below hs1;have hr1:=hr1.mix1 hs1 o (l.id,5) (bxH l);obtain⟨o1,ho1⟩:∃ o1,o1=mix o o' w1.heap.size (l.id,5) (bxH l):=⟨_,rfl⟩;rw[←ho1]at hr1;have ht1:∀ b,b<w1.heap.size→o1 b=o b:=fun b hb=>by rw[ho1];exact mix_lt hb
 have hI1:HpIn w2 o1 l H vc vo vw vf f:=(HI0.out.retag ht1).below hb2;have hS1:Stp (hTag l) o o1 w w2:=(Stp.of_below hb1).trans ⟨hb2.os,hb2.tape,hb2.output,hb2.size,ht1,fun b hb _=>hb2.block b hb⟩
 clear ho1 hs1 ht1 c14 hb2;have c14:=hI1.c14;have z14:=hI1.hb.free 14;have s14:=hI1.hb.lt;obtain⟨pa,cp,rfl⟩:=hr1.slc;rw[←HN.out]at hr1 ⊢;go_upto_region 4 with fail;obtain⟨W,hW⟩:∃ W,W=w2.setCell ⟨l.h,14,none⟩ (.slice pa n cp):=⟨_,rfl⟩;rw[HN.out]at hr1;have hIW:HpIn W o1 l { H with weak:=st } vc vo (.slice pa n cp) vf f:=by rw[hW];rw[←HN.out]at hr1;exact hI1.setWeak (by rw[←HN.out];exact hr1)
 have hSW:Stp (hTag l) o o1 w W:=by rw[hW];exact hS1.setCell (by show hTag l (o1 l.h);rw[hI1.oh];exact⟨rfl,by simp⟩) _
 rw[←hW];clear hW hr1 hI1 hS1 c14 z14 s14 hb1;have c15:=hIW.c15;have HIW:=Lib.hid hIW;clear hIW;go_wp2_with fail;refine (HS2.out _ _ _ HIW.out).mono ?_
 rintro e w3 ⟨v3,v4,o'',rfl,hr3,_,hs3⟩
 have hb3:=T2.below hs3;have hr3:=hr3.mix1 hs3 o1 (l.id,6) (bxH l);obtain⟨o3,ho3⟩:∃ o3,o3=mix o1 o'' W.heap.size (l.id,6) (bxH l):=⟨_,rfl⟩;rw[←ho3]at hr3;have ht3:∀ b,b<W.heap.size→o3 b=o1 b:=fun b hb=>by rw[ho3];exact mix_lt hb
 have hI3:HpIn w3 o3 l { H with weak:=st } vc vo (.slice pa n cp) vf f:=(HIW.out.retag ht3).below hb3;have hS3:Stp (hTag l) o o3 w w3:=hSW.trans ⟨hb3.os,hb3.tape,hb3.output,hb3.size,ht3,fun b hb _=>hb3.block b hb⟩
 clear ho3 hs3 ht3 c15 hb3 hSW;have c15:=hI3.c15;have z15:=hI3.hb.free 15;have s15:=hI3.hb.lt;obtain⟨pa3,cp3,rfl⟩:=hr3.slc;obtain⟨v3,hv3⟩:∃ v3,v3=Value.slice pa3 sf.length cp3:=⟨_,rfl⟩;have HV3:=Lib.hid hv3;go_upto_region 5 with fail;obtain⟨W4,hW4⟩:∃ W,W=w3.setCell ⟨l.h,15,none⟩ v3:=⟨_,rfl⟩;have hI4:HpIn W4 o3 l H2 vc vo (.slice pa n cp) v3 f:=by rw[hW4,HH2.out,HV3.out];exact hI3.setFinal hr3
 have hS4:Stp (hTag l) o o3 w W4:=by rw[hW4];exact hS3.setCell (by show hTag l (o3 l.h);rw[hI3.oh];exact⟨rfl,by simp⟩) _
 rw[←hv3,←hW4];clear hW4 hv3 hr3 hI3 hS3 c15 z15 s15;have c14:=hI4.c14;have hD4:DrL w o l (H2.dropL (st.take 0)).1 (H2.dropL (st.take 0)).2 vo (.slice pa n cp) v3 (.slice none 0 0) W4:=⟨vc,f,o3,hI4,hS4,Row.nil _ _ _ _ _,fun b hb=>by simp[Value.ownBlock]at hb⟩
 clear hI4 hS4;go_wp2_with fail;clear c14;go_loopw [4,51] (fun v ix wr=>∃ k:Nat,ix=.int .i64 k∧k≤n∧DrL w o l (H2.dropL (st.take k)).1 (H2.dropL (st.take k)).2 vo (.slice pa n cp) v3 v wr) (fun _ ix _=>n-(intOf ix).toNat)
 case atStart=>exact⟨0,rfl,by omega,hD4⟩
 case round =>
  obtain⟨k,rfl,hkn,vc',f',o',hI,hS,hR,hG⟩:=hrel;clear hD4;by_cases hlt:k<n
  ·have hkI:(k:Int)<(n:Int):=by omega
   have hk40:(k:Int)<1099511627776:=by omega
   obtain⟨x,hx⟩:∃ x,st[k]?=some x:=⟨_,List.getElem?_eq_getElem (by rw[←HN.out];omega)⟩
   have htk:=take_snoc_get hx;have hwk:=Hp.dropL_wf (st.take k) HW.out;have hsn:=dropL_snoc (st.take k) x H2;rw[←htk]at hsn;have hll:=dropL_len (st.take k) H2;obtain⟨ob,hob,hp1⟩:=dropL_keeps (st.take k) (HWk.out x (List.mem_of_getElem? hx));have hsw:(H2.dropL (st.take k)).1.weak=st:=by rw[(dropL_same _ _).2.1,HH2.out]
   have htl:(st.take k).length=k:=by rw[List.length_take,←HN.out];omega
   have HSn:=Lib.hid hsn;generalize H2.dropL (st.take k)=r at *;obtain⟨Hk,ls⟩:=r;simp only at hI hR hwk hll hob HSn hsw;have hls40:ls.length≤1099511627776:=by omega
   have HL:=Lib.hid (len40 hls40);have hrw:=hI.rw;rw[hsw,←HN.out]at hrw;rcases hrw.shape with ⟨_,h0⟩|⟨g,c,e1,hnc,hcm⟩
   ·omega
   ·injection e1 with e1 _ e3
    subst e1 e3;have cx:wr.cell? ⟨g,k,none⟩=some (.int .i64 x):=hrw.cells k _ (by rw[List.getElem?_map,hx];rfl)
    have ho:=hwk.obk hob;obtain⟨y,hy⟩:∃ y,ob.ptrs[0]?=some y:=⟨_,List.getElem?_eq_getElem (by rw[ho.lp];omega)⟩
    obtain⟨ha,_,hl,_⟩:=hI.at_ hwk.ok hob;have HPt:=Lib.hid (optr_get hI.wds ha ho hl 0 y hy x 0 rfl rfl);have HC0:=Lib.hid (fun w4 (hb:Below wr.heap.size wr w4)=>(hI.below hb).c0)
    have HTh:=fun w4 (hb:Below wr.heap.size wr w4)=>there_any (hI.below hb) hwk.ok y
    have c0:=hI.c0;obtain⟨pl,cl,rfl⟩:=hR.slc;have hSn':Hk.drop1 x=match lko Hk.old y with|none=>(Hk,[])|some (_,some q)=>({ Hk with cur:=up Hk.cur x (ob.setPtr 0 q) },[])|some (_,none)=>({ Hk with cur:=up Hk.cur x (ob.setPtr 0 0) },[ob.serial]):=by
     unfold Hp.drop1;rw[hob];simp only;rw[hy];rfl
    have HII:=Lib.hid hI;have HSS:=Lib.hid hS;have HRR:=Lib.hid hR;have HGG:=Lib.hid hG;have HWK:=Lib.hid hwk;have HOB:=Lib.hid hob;have HSz:=Lib.hid (show 0<ob.shp.p from hp1)
    cases hlo:lko Hk.old y with
    | none =>
     rw[hlo]at hSn' HTh;have HTh:=Lib.hid HTh;have HSn2:=Lib.hid hSn';clear hsn htk hwk hll hob hp1 hsw htl hI hS hR hG hrw ho hy ha hl hx hSn' hlo hls40;go_wp2_with fail;refine HPt.out.mono ?_
     rintro e w5 ⟨rfl,hb5⟩
     go_wp2_with fail;refine (HTh.out _ hb5).mono ?_
     rintro e w6 ⟨rfl,hb6⟩
     have hb:=btrans hb5 hb6;go_wp2_with fail;go_roundw
     case rel=>exact⟨k+1,by simp,by omega,by rw[HSn.out,HSn2.out];simp only[List.append_nil];exact⟨vc',f',o',HII.out.below hb,HSS.out.trans (Stp.of_below hb),HRR.out.below hb,HGG.out⟩⟩
     case measure=>simp[intOf];omega
    | some z =>
     obtain⟨oo,gq⟩:=z;rw[hlo]at hSn' HTh;have HTh:=Lib.hid HTh;have HSn2:=Lib.hid hSn'
     cases gq with
     | some q =>
      have hq:=hwk.ok.gone _ (lko_mem hlo) q rfl;have HAt:=Lib.hid (fun w4 (hb:Below wr.heap.size wr w4)=>at_went (hI.below hb) hwk.ok hlo)
      have HSP:=Lib.hid (fun w4 (hb:Below wr.heap.size wr w4)=>osetptr_any (hI.wds.below hb) ha ho hl 0 q hp1 hq.2 x 0 q rfl rfl rfl)
      have HEn:=Lib.hid (fun w4 w5 (hb:Below wr.heap.size wr w4) hT=>(hI.below hb).turn_mvd (w':=w5) hwk.ok hob (k:=3+0) (by unfold Ob.size;omega) hT (by rw[show x+(3+0)=x+3+0 from by omega];exact ha.setPtr ho 0 q hp1))
      rw[show x+(3+0)=x+3+0 from by omega]at HEn
      clear hsn htk hwk hll hob hp1 hsw htl hI hS hR hG hrw ho hy ha hl hx hSn' hlo hls40 hq;go_wp2_with fail;refine HPt.out.mono ?_
      rintro e w5 ⟨rfl,hb5⟩
      go_wp2_with fail;refine (HTh.out _ hb5).mono ?_
      rintro e w6 ⟨rfl,hb6⟩
      have hb:=btrans hb5 hb6;clear c0;have c0:=HC0.out _ hb;go_wp2_with fail;refine (HAt.out _ hb).mono ?_
      rintro e w7 ⟨rfl,rfl⟩
      go_wp2_with fail;refine (HSP.out _ hb).mono ?_
      rintro e w8 ⟨rfl,hT8⟩
      have hfin:=Lib.hid (show DrL w o l (H2.dropL (st.take (k+1))).1 (H2.dropL (st.take (k+1))).2 vo (.slice (some ⟨g,0,none⟩) n cp) v3 (.slice pl ls.length cl) w8 from by
       rw[HSn.out,HSn2.out];simp only[List.append_nil];obtain⟨vc8,f8,o8,h8,s8⟩:=HEn.out _ _ hb hT8;refine⟨vc8,f8,o8,h8,(HSS.out.trans (Stp.of_below hb)).trans s8,(HRR.out.below hb).stp s8 (bxH_no l),HGG.out⟩)
      clear hT8 c0;go_wp2_with fail;go_roundw
      case rel=>exact⟨k+1,by simp,by omega,hfin.out⟩
      case measure=>simp[intOf];omega
     | none =>
      have HAt:=Lib.hid (fun w4 (hb:Below wr.heap.size wr w4)=>at_left (hI.below hb) hwk.ok hlo)
      have HSP:=Lib.hid (fun w4 (hb:Below wr.heap.size wr w4)=>osetptr_any (hI.wds.below hb) ha ho hl 0 0 hp1 (by omega) x 0 0 rfl rfl rfl)
      have HEn:=Lib.hid (fun w4 w5 (hb:Below wr.heap.size wr w4) hT=>(hI.below hb).turn_mvd (w':=w5) hwk.ok hob (k:=3+0) (by unfold Ob.size;omega) hT (by rw[show x+(3+0)=x+3+0 from by omega];exact ha.setPtr ho 0 0 hp1))
      rw[show x+(3+0)=x+3+0 from by omega]at HEn
      have hlk2:lk (up Hk.cur x (ob.setPtr 0 0)) x=some (ob.setPtr 0 0):=by rw[lk_up,if_pos rfl,hob];rfl
      have hw2:=up_wf hwk hob (ob':=ob.setPtr 0 0) (Ob.setPtr_ok ho 0 0 (by omega)) rfl
      have HSr:=Lib.hid (fun w4 vc4 f4 o4 (h4:HpIn w4 o4 l { Hk with cur:=up Hk.cur x (ob.setPtr 0 0) } vc4 vo (.slice (some ⟨g,0,none⟩) n cp) v3 f4)=>show Calls Tryz.prog 131 #[.pointer (some ⟨l.a,0,none⟩),.int .i64 x] w4 fun e w'=>e=.returned (.tuple #[.int .i64 ob.serial,.int .i64 0])∧Below w4.heap.size w4 w' from by
       obtain⟨ha4,ho4,hl4,_⟩:=h4.at_ hw2.ok hlk2;exact oserial_any h4.wds ha4 ho4 hl4 x rfl)
      clear hsn htk hwk hll hob hp1 hsw htl hI hS hR hG hrw ho hy ha hl hx hSn' hlo hls40 hlk2 hw2;go_wp2_with fail;refine HPt.out.mono ?_
      rintro e w5 ⟨rfl,hb5⟩
      go_wp2_with fail;refine (HTh.out _ hb5).mono ?_
      rintro e w6 ⟨rfl,hb6⟩
      have hb:=btrans hb5 hb6;clear c0;have c0:=HC0.out _ hb;go_wp2_with fail;refine (HAt.out _ hb).mono ?_
      rintro e w7 ⟨rfl,rfl⟩
      go_wp2_with fail;refine (HSP.out _ hb).mono ?_
      rintro e w8 ⟨rfl,hT8⟩
      obtain⟨vc8,f8,o8,h8,s8⟩:=HEn.out _ _ hb hT8;have H8:=Lib.hid h8;have S8:=Lib.hid ((HSS.out.trans (Stp.of_below hb)).trans s8);have R8:=Lib.hid ((HRR.out.below hb).stp s8 (bxH_no l));clear hT8 c0 s8;have c0:=h8.c0;clear h8;go_wp2_with fail;refine (HSr.out _ _ _ _ H8.out).mono ?_
      rintro e w9 ⟨rfl,hb9⟩
      clear c0;have R9:=Lib.hid (R8.out.below hb9).solo;go_wp2_with (first|(at_builtin;refine wpList_append_row _ rfl _ _ _ rfl 3 iI _ 1 8 hu64 hi hzI hsI hyI rfl (by decide) (solo (.slice pl ls.length cl)) (1,0) _ _ _ rfl (Row.below R9.out (balloc (bsame w9) _)) ⟨w9.heap.size,0,none⟩ 1 1 [.int .i64 ob.serial] rfl rfl (news_one (Blk.new w9 _ _)) one_i64 HL.out.1 HL.out.2 ?_;intro v' w10 hown hst;obtain⟨pa8,cp8,rfl⟩:=hown.slc)|fail)
      have hfin:=Lib.hid (show DrL w o l (H2.dropL (st.take (k+1))).1 (H2.dropL (st.take (k+1))).2 vo (.slice (some ⟨g,0,none⟩) n cp) v3 (.slice pa8 (ls.length+1) cp8) w10 from by
       rw[HSn.out,HSn2.out];have hB:=btrans hb9 (balloc (bsame w9) (.cells #[.int .i64 ob.serial] 3));obtain⟨q1,q2,q3,q4⟩:=Row.regrow (R8.out.below hB) hown hst (S8.out.trans (Stp.of_below hB)) HGG.out;refine⟨vc8,f8,_,(H8.out.below hB).bstp q2,q3,?_,q4⟩;rw[List.length_append,map_snoc_nv];exact q1)
      clear hown hst;go_roundw
      case rel=>exact⟨k+1,by simp,by omega,hfin.out⟩
      case measure=>simp[intOf];omega
  ·obtain rfl:k=n:=by omega
   rw[HN.out,List.take_length]at hI hR;rw[←HN.out]at hI;have hwk:=(Hp.dropL_wf st HW.out).ok;have hll:=dropL_len st H2;generalize hr:H2.dropL st=r at *;obtain⟨Hk,ls⟩:=r;simp only at hI hR hwk hll;obtain⟨pl,cl,rfl⟩:=hR.slc;have hsz:=hwk.sz;have hol:=laid_le _ _ _ hwk.ol;have hot:=hwk.ot;have hb0:=Hk.base_bd (!Hk.use);clear hr hwk hG hlt;rcases (show Hk.use=false∨Hk.use=true by cases Hk.use<;>simp) with hu|hu
   ·have hb:=hI.cells_f' hu
    have hfinC:∀ sz tp scn srl:Nat,sz=Hk.size→tp=Hk.top→scn=Hk.scan→srl=Hk.serial→Hk.rest.cells l.a vc' (.slice none 0 0) (.slice pa k cp) v3=#[.pointer (some ⟨l.a,0,none⟩),.int .i64 1,.int .i64 sz,.int .i64 tp,.int .i64 (1+(sz:Int)),.int .i64 sz,.int .i64 (1+(sz:Int)),vc',.slice none 0 0,.int .i64 0,.bool false,.int .i64 0,.int .i64 scn,.int .i64 srl,.slice pa k cp,v3]:=fun sz tp scn srl e1 e2 e3 e4=>by
     subst e1 e2 e3 e4;unfold Hp.cells Hp.rest Hp.base;simp[hu]
    have HE:=(fun W=>sempty_any (b:=Hk.base (!Hk.use)) (s:=Hk.size) (t:=Hk.otop) ⟨by omega,by omega,by omega,by omega⟩ W)
    unfold spV at HE;rw[show (Hk.base (!Hk.use):Int)=(1+(Hk.size:Int)) from by rw[hu];show ((1+Hk.size:Nat):Int)=_;omega]at HE
    replace HE:=Lib.hid HE;generalize hg1:Hk.size=sz at hb HE hfinC;generalize hg2:Hk.top=tp at hb hfinC;generalize hg3:Hk.otop=otp at hb HE;generalize hg4:Hk.owed=owd at hb;generalize hg5:Hk.scan=scn at hb hfinC;generalize hg6:Hk.serial=srl at hb hfinC;generalize hg7:Hk.moving=mv at hb;have HFC:=Lib.hid (hfinC sz tp scn srl rfl rfl rfl rfl);have HII:=Lib.hid hI;have HSS:=Lib.hid hS;have HRR:=Lib.hid hR;clear hfinC hg1 hg2 hg3 hg4 hg5 hg6 hg7 hI hS hR hu;have c:=hb.cell;have z:=hb.free;have s:=hb.lt;go_upto_region 18 with fail;go_cut [] (fun wx=>Blk wx l.h #[.pointer (some ⟨l.a,0,none⟩),.int .i64 1,.int .i64 sz,.int .i64 tp,.int .i64 (1+(sz:Int)),.int .i64 sz,.int .i64 (1+(sz:Int)),vc',vo,.int .i64 0,.bool mv,.int .i64 owd,.int .i64 scn,.int .i64 srl,.slice pa k cp,v3] 185∧Wr l.h wr wx)
    case first =>
     go_region_with (first|(go_at_call 187;refine (HE.out _).mono ?_;rintro e w4 ⟨rfl,hb4⟩;have j4:=Blk.below (drewB hb) hb4 (drewB hb).lt;have c4:=j4.cell;have z4:=j4.free;have s4:=j4.lt)|fail)
     all_goals
      go_wp2_with fail;go_meet;exact⟨by simpa using ((j4.set 4 _).set 5 _).set 6 _,(((Wr.of_below (bdrew (bsame wr))).trans (Wr.of_below hb4)).trans (Wr.set _ _ _ _)).trans ((Wr.set _ _ _ _).trans (Wr.set _ _ _ _))⟩
    case rest =>
     obtain⟨j2,r2⟩:=hcut;clear c z s hb;have c:=j2.cell;have z:=j2.free;have s:=j2.lt;have hfin:=Lib.hid (show DropLeft w o l Hk.rest ls true (.returned (.tuple #[.slice pl ls.length cl,.bool true])) (((wc.setCell ⟨l.h,8,none⟩ (.slice none 0 0)).setCell ⟨l.h,10,none⟩ (.bool false)).setCell ⟨l.h,11,none⟩ (.int .i64 0)) from by
      have j3:Blk (((wc.setCell ⟨l.h,8,none⟩ (.slice none 0 0)).setCell ⟨l.h,10,none⟩ (.bool false)).setCell ⟨l.h,11,none⟩ (.int .i64 0)) l.h #[.pointer (some ⟨l.a,0,none⟩),.int .i64 1,.int .i64 sz,.int .i64 tp,.int .i64 (1+(sz:Int)),.int .i64 sz,.int .i64 (1+(sz:Int)),vc',.slice none 0 0,.int .i64 0,.bool false,.int .i64 0,.int .i64 scn,.int .i64 srl,.slice pa k cp,v3] 185:=by simpa using ((j2.set 8 (.slice none 0 0)).set 10 (.bool false)).set 11 (.int .i64 0)
      rw[←HFC.out]at j3;have hs:Stp (fun t=>t=(l.id,0)) o' o' wr (((wc.setCell ⟨l.h,8,none⟩ (.slice none 0 0)).setCell ⟨l.h,10,none⟩ (.bool false)).setCell ⟨l.h,11,none⟩ (.int .i64 0)):=Stp.of_wr (((r2.trans (Wr.set _ _ _ _)).trans (Wr.set _ _ _ _)).trans (Wr.set _ _ _ _)) HII.out.oh
      exact⟨_,vc',_,_,_,f',o',rfl,HII.out.rested j3 hs,HSS.out.trans (hs.mono (by rintro _ rfl;exact⟨rfl,by simp⟩)),HRR.out.stp hs (by simp)⟩)
     clear j2 r2;go_wp2_with fail;go_ret2;exact hfin.out
   ·have hb:=hI.cells_t' hu
    have hfinC:∀ sz tp scn srl:Nat,sz=Hk.size→tp=Hk.top→scn=Hk.scan→srl=Hk.serial→Hk.rest.cells l.a vc' (.slice none 0 0) (.slice pa k cp) v3=#[.pointer (some ⟨l.a,0,none⟩),.int .i64 1,.int .i64 sz,.int .i64 1,.int .i64 (1+(sz:Int)),.int .i64 sz,.int .i64 tp,.slice none 0 0,vc',.int .i64 1,.bool false,.int .i64 0,.int .i64 scn,.int .i64 srl,.slice pa k cp,v3]:=fun sz tp scn srl e1 e2 e3 e4=>by
     subst e1 e2 e3 e4;unfold Hp.cells Hp.rest Hp.base;simp[hu]
    have HE:=(fun W=>sempty_any (b:=Hk.base (!Hk.use)) (s:=Hk.size) (t:=Hk.otop) ⟨by omega,by omega,by omega,by omega⟩ W)
    unfold spV at HE;rw[show (Hk.base (!Hk.use):Int)=1 from by rw[hu];rfl]at HE
    replace HE:=Lib.hid HE;generalize hg1:Hk.size=sz at hb HE hfinC;generalize hg2:Hk.top=tp at hb hfinC;generalize hg3:Hk.otop=otp at hb HE;generalize hg4:Hk.owed=owd at hb;generalize hg5:Hk.scan=scn at hb hfinC;generalize hg6:Hk.serial=srl at hb hfinC;generalize hg7:Hk.moving=mv at hb;have HFC:=Lib.hid (hfinC sz tp scn srl rfl rfl rfl rfl);have HII:=Lib.hid hI;have HSS:=Lib.hid hS;have HRR:=Lib.hid hR;clear hfinC hg1 hg2 hg3 hg4 hg5 hg6 hg7 hI hS hR hu;have c:=hb.cell;have z:=hb.free;have s:=hb.lt;go_upto_region 18 with fail;go_cut [] (fun wx=>Blk wx l.h #[.pointer (some ⟨l.a,0,none⟩),.int .i64 1,.int .i64 sz,.int .i64 1,.int .i64 (1+(sz:Int)),.int .i64 sz,.int .i64 tp,vo,vc',.int .i64 1,.bool mv,.int .i64 owd,.int .i64 scn,.int .i64 srl,.slice pa k cp,v3] 185∧Wr l.h wr wx)
    case first =>
     go_region_with (first|(go_at_call 187;refine (HE.out _).mono ?_;rintro e w4 ⟨rfl,hb4⟩;have j4:=Blk.below (drewB hb) hb4 (drewB hb).lt;have c4:=j4.cell;have z4:=j4.free;have s4:=j4.lt)|fail)
     all_goals
      go_wp2_with fail;go_meet;exact⟨by simpa using ((j4.set 1 _).set 2 _).set 3 _,(((Wr.of_below (bdrew (bsame wr))).trans (Wr.of_below hb4)).trans (Wr.set _ _ _ _)).trans ((Wr.set _ _ _ _).trans (Wr.set _ _ _ _))⟩
    case rest =>
     obtain⟨j2,r2⟩:=hcut;clear c z s hb;have c:=j2.cell;have z:=j2.free;have s:=j2.lt;have hfin:=Lib.hid (show DropLeft w o l Hk.rest ls true (.returned (.tuple #[.slice pl ls.length cl,.bool true])) (((wc.setCell ⟨l.h,7,none⟩ (.slice none 0 0)).setCell ⟨l.h,10,none⟩ (.bool false)).setCell ⟨l.h,11,none⟩ (.int .i64 0)) from by
      have j3:Blk (((wc.setCell ⟨l.h,7,none⟩ (.slice none 0 0)).setCell ⟨l.h,10,none⟩ (.bool false)).setCell ⟨l.h,11,none⟩ (.int .i64 0)) l.h #[.pointer (some ⟨l.a,0,none⟩),.int .i64 1,.int .i64 sz,.int .i64 1,.int .i64 (1+(sz:Int)),.int .i64 sz,.int .i64 tp,.slice none 0 0,vc',.int .i64 1,.bool false,.int .i64 0,.int .i64 scn,.int .i64 srl,.slice pa k cp,v3] 185:=by simpa using ((j2.set 7 (.slice none 0 0)).set 10 (.bool false)).set 11 (.int .i64 0)
      rw[←HFC.out]at j3;have hs:Stp (fun t=>t=(l.id,0)) o' o' wr (((wc.setCell ⟨l.h,7,none⟩ (.slice none 0 0)).setCell ⟨l.h,10,none⟩ (.bool false)).setCell ⟨l.h,11,none⟩ (.int .i64 0)):=Stp.of_wr (((r2.trans (Wr.set _ _ _ _)).trans (Wr.set _ _ _ _)).trans (Wr.set _ _ _ _)) HII.out.oh
      exact⟨_,vc',_,_,_,f',o',rfl,HII.out.rested j3 hs,HSS.out.trans (hs.mono (by rintro _ rfl;exact⟨rfl,by simp⟩)),HRR.out.stp hs (by simp)⟩)
     clear j2 r2;go_wp2_with fail;go_ret2;exact hfin.out
theorem drop_any (h:HpIn w o l H vc vo vw vf f)(hw:H.wf) :
  Calls Tryz.prog 242 #[.pointer (some ⟨l.h,0,none⟩)] w (DropLeft w o l H.drop.1 H.drop.2.1 H.drop.2.2):=by
 by_cases hm:H.moving=false∨H.scan≠H.top
 ·have e0:H.drop=(H,[],false):=by unfold Hp.drop;rw[if_pos hm]
  rw[e0];have hfin:=Lib.hid (fun w' (hb:Below w.heap.size w w')=>show DropLeft w o l H [] false (.returned (.tuple #[.slice none 0 0,.bool false])) w' from ⟨_,vc,vo,vw,vf,f,o,rfl,h.below hb,Stp.of_below hb,Row.nil _ _ _ _ _⟩)
  have HM:=moving_any h;have HD:=scanned_any h;generalize H.moving=mv at HM hm;replace HM:=Lib.hid HM
  cases mv
  ·clear h hw hm e0 HD
   go_enter Tryz.func242,Tryz.ntmps242;go_wp2_with fail;refine HM.out.mono ?_
   rintro e w1 ⟨rfl,rfl⟩
   go_wp2_with fail;go_ret2;exact hfin.out _ (bsame _)
  ·have hs:H.scan≠H.top:=hm.resolve_left (by simp)
   rw[decide_eq_false hs]at HD;replace HD:=Lib.hid HD;clear h hw hm e0 hs;go_enter Tryz.func242,Tryz.ntmps242;go_wp2_with fail;refine HM.out.mono ?_
   rintro e w1 ⟨rfl,rfl⟩
   go_wp2_with fail;refine HD.out.mono ?_
   rintro e w1 ⟨rfl,hb⟩
   go_wp2_with fail;go_ret2;exact hfin.out _ hb
 ·refine drop_go h hw ?_ ?_
  ·cases hmm:H.moving
   ·exact absurd (.inl hmm) hm
   ·rfl
  ·exact Decidable.byContradiction fun e=>hm (.inr e)
end
end Go.Proofs.YteehgedabdchcaaGreat
