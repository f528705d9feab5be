import Derived.Test.YteehgedabdchcaaGreatKao
import Derived.Defers
import Derived.Laws.CopyRow
import Derived.Shelf.Spec.SlicesGrow
import Derived.Sort.CutIn
import Derived.Stop.RegionWithIn
set_option linter.all false
set_option maxRecDepth 1000000
set_option maxHeartbeats 0
namespace Go.Proofs.YteehgedabdchcaaGreat
open Go.RowKit Hp
attribute [local go_sem ↓] Go.wp_at_zero Go.wp_at_succ
section
variable {w w' : World} {o o' : Own} {y : A6} {S : An} {i : Nat}
structure Ch (w:World)(o:Own)(y:A6)(S:An)(vr vs:Value)(rd ls:List Nat):Prop where
 AM:∃ vq vl vm,Al w y.sb (qw y S vq vl vm) 101/\B1 w o y.l.id S vq vl vm
 cb:Al w y.cy #[ptr y.l.h,E3 y.cy S.ph,vr,vs] 201
 cr:Row w o (y.l.id,8) 3 1 vr rd.length (rd.map nv)
 cl:Row w o (y.l.id,9) 3 1 vs ls.length (ls.map nv)
 oy:o y.cy=(y.l.id,7)
 hp:Bp w o y.l S.H
 ck:Al w y.ck #[.int .i64 S.now,.int .i64 S.most] 193
 DV:Row w o (y.l.id,12) 103 1 y.EM S.Au.length ((List.range S.Au.length).map fun i=>ptr (y.xb i))
 Au:∀ i x,S.Au[i]?=some x->Ey w o y.l.id i (y.xb i) (y.lb i) x
 oc:o y.ck=(y.l.id,10)
 os:o y.sb=(y.l.id,11)
def Aq.Sw (h:Aq w o y S):Ch w o y S (.slice none 0 0) (.slice none 0 0) [] []:=⟨h.AM,h.cy,Row.nil _ _ _ _ _,Row.nil _ _ _ _ _,h.oy,h.hp,h.ck,h.DV,h.Au,h.oc,h.os⟩
def Ch.close (h:Ch w o y S (.slice none 0 0) (.slice none 0 0) [] []):Aq w o y S:=⟨h.AM,h.cb,h.hp,h.ck,h.DV,h.Au,h.oc,h.os,h.oy⟩
def Ch.lt {vr vs:Value}{rd ls:List Nat}(h:Ch w o y S vr vs rd ls):y.sb<w.1.size:=by obtain⟨_,_,_,hb,_⟩:=h.AM;exact hb.lt
def Ch.EW {vr vs pV vs':Value}{rd ls rd' ls':List Nat}(h:Ch w o y S vr vs rd ls){H':Hp}{n:Nat}(hH:Bp w' o' y.l H')(hb':Al w' y.cy #[ptr y.l.h,E3 y.cy n,pV,vs'] 201)(hr1:Row w' o' (y.l.id,8) 3 1 pV rd'.length (rd'.map nv))(hr2:Row w' o' (y.l.id,9) 3 1 vs' ls'.length (ls'.map nv))(hs:Stp (EV y.l) o o' w w'):Ch w' o' y { S with H:=H',ph:=n } pV vs' rd' ls':=by
 obtain⟨vq,vl,vm,hb,hr⟩:=h.AM;have hn:∀ j,10<=j->¬EV y.l (y.l.id,j):=fun j hj e=>by have:=e.2;simp only at this;omega
 have hr':=hr.Ao hs fun j _ _=>hn j (by omega)
 exact⟨⟨vq,vl,vm,hb.Ao hs (by rw[h.os];exact hn _ (by omega)),hr'.1,hr'.2,hr'.3⟩,hb',hr1,hr2,(hs.tags _ h.cb.lt).trans h.oy,hH,h.ck.Ao hs (by rw[h.oc];exact hn _ (by omega)),h.DV.Ao hs (hn _ (by omega)),fun i x hx=>(h.Au i x hx).Ao hs fun j _=>hn _ (by omega),(hs.tags _ h.ck.lt).trans h.oc,(hs.tags _ h.lt).trans h.os⟩
def Ch.Wo {vr vs pV vs':Value}{rd ls rd' ls':List Nat}(h:Ch w o y S vr vs rd ls)(hb':Al w' y.cy #[ptr y.l.h,E3 y.cy S.ph,pV,vs'] 201)(hr1:Row w' o' (y.l.id,8) 3 1 pV rd'.length (rd'.map nv))(hr2:Row w' o' (y.l.id,9) 3 1 vs' ls'.length (ls'.map nv))(hs:Stp (fun t=>t=(y.l.id,7)) o o' w w'):Ch w' o' y S pV vs' rd' ls':=
 h.EW (h.hp.Ao hs fun j hj=>by simp;omega) hb' hr1 hr2 (hs.mono (by rintro _ rfl;exact⟨rfl,.inl (Qk _)⟩))
def Ch.below {vr vs:Value}{rd ls:List Nat}(h:Ch w o y S vr vs rd ls)(hb:Below w.1.size w w'):Ch w' o y S vr vs rd ls:=by
 have hs:Stp (fun _=>False) o o w w':=Stp.of_below hb
 obtain⟨vq,vl,vm,hbk,hr⟩:=h.AM;exact⟨⟨vq,vl,vm,hbk.below hb hbk.lt,hr.Ao hs fun _ _ _ h=>h⟩,h.cb.below hb h.cb.lt,h.cr.below hb,h.cl.below hb,h.oy,h.hp.Ao hs fun _ _ h=>h,h.ck.below hb h.ck.lt,h.DV.Ao hs fun h=>h,fun i x hx=>(h.Au i x hx).Ao hs fun _ _ h=>h,h.oc,h.os⟩
def Ch.own {vr vs:Value}{rd ls:List Nat}(h:Ch w o y S vr vs rd ls){S':An}(e1:S'.H=S.H)(e2:S'.ph=S.ph)(e3:S'.now=S.now)(e4:S'.most=S.most)(e5:S'.Au=S.Au)
  {vq vl vm:Value}(hb:Al w' y.sb (qw y S' vq vl vm) 101)(hr:B1 w' o' y.l.id S' vq vl vm)(hs:Stp (kl y) o o' w w'):Ch w' o' y S' vr vs rd ls:=by
 have hn:∀ j,j≠11->j≠13->j≠14->j≠15->¬kl y (y.l.id,j):=fun j a b c d=>bj a b c d
 exact⟨⟨vq,vl,vm,hb,hr⟩,by rw[e2];exact h.cb.Ao hs (by rw[h.oy];exact hn _ (by omega) (by omega) (by omega) (by omega)),h.cr.Ao hs (hn _ (by omega) (by omega) (by omega) (by omega)),h.cl.Ao hs (hn _ (by omega) (by omega) (by omega) (by omega)),(hs.tags _ h.cb.lt).trans h.oy,by rw[e1];exact h.hp.Ao hs fun j hj=>hn _ (by omega) (by omega) (by omega) (by omega),
  by rw[e3,e4];exact h.ck.Ao hs (by rw[h.oc];exact hn _ (by omega) (by omega) (by omega) (by omega)),by rw[e5];exact h.DV.Ao hs (hn _ (by omega) (by omega) (by omega) (by omega)),fun i x hx=>(h.Au i x (by rw[<-e5];exact hx)).Ao hs fun j _=>hn _ (by omega) (by omega) (by omega) (by omega),
  (hs.tags _ h.ck.lt).trans h.oc,(hs.tags _ h.lt).trans h.os⟩
