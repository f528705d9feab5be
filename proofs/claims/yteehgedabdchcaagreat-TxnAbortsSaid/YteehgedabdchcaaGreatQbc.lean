import Derived.Test.YteehgedabdchcaaGreatQba
set_option linter.all false
set_option maxRecDepth 1000000
set_option maxHeartbeats 16000000
namespace Go.Proofs.YteehgedabdchcaaGreat
open Hp
section
variable {H H' : Ag} {s v x : Nat} {u : Un} {us : List Un}
theorem upd_comm {f g:AO→AO}(h:∀ a,f (g a)=g (f a))(H:Ag)(s t:Nat):(H.upd s f).upd t g=(H.upd t g).upd s f:=by
 funext x;unfold Ag.upd;by_cases h1:x=t<;>by_cases h2:x=s
 ·subst h1;subst h2;simp only[if_true];cases H x<;>simp[h]
 ·subst h1;simp[h2]
 ·subst h2;simp[h1]
 ·simp[h1,h2]
def Un.f (u:Un)(a:AO):AO:=if u.kind=1 then a.ptr u.i u.old.toNat else if u.kind=2 then a.num u.i u.old else if u.kind=3 then a.free (decide (u.old≠0)) else a
theorem undo1_upd (H:Ag)(u:Un):H.undo1 u=H.upd u.pos u.f:=by
 unfold Ag.undo1 Un.f;split
 ·rfl
 ·split
  ·rfl
  ·split
   ·rfl
   ·funext x;unfold Ag.upd;split
    ·rename_i e;rw[←e];simp
    ·rfl
theorem Un.f_second (u:Un)(a:AO)(v:Nat):u.f (a.second v)=(u.f a).second v:=by
 unfold Un.f;(repeat' split)<;>rfl
theorem undo1_second (H:Ag)(s v:Nat)(u:Un):(H.upd s fun a=>a.second v).undo1 u=(H.undo1 u).upd s fun a=>a.second v:=by
 rw[undo1_upd,undo1_upd];exact upd_comm (f:=fun a=>a.second v) (fun a=>(u.f_second a v).symm) H s u.pos
theorem undoL_second (H:Ag)(s v:Nat):∀ us:List Un,(H.upd s fun a=>a.second v).undoL us=(H.undoL us).upd s fun a=>a.second v
 | []=>rfl
 | u::us=>by
  show ((H.upd s fun a=>a.second v).undoL us).undo1 u=((H.undoL us).undo1 u).upd s _
  rw[undoL_second H s v us,undo1_second]
theorem undoL_snoc (H:Ag)(us:List Un)(u:Un):H.undoL (us++[u])=(H.undo1 u).undoL us:=by unfold Ag.undoL;rw[List.foldr_append];rfl
theorem updH_at (h:H x=H' x)(s:Nat)(f:AO→AO):H.upd s f x=H'.upd s f x:=by
 unfold Ag.upd;split
 ·rename_i e;rw[←e,h]
 ·exact h
theorem undo1_at (h:H x=H' x):H.undo1 u x=H'.undo1 u x:=by rw[undo1_upd,undo1_upd];exact updH_at h _ _
theorem undoL_at (h:H x=H' x):∀ us:List Un,H.undoL us x=H'.undoL us x
 | []=>h
 | _::us=>undo1_at (undoL_at h us)
theorem upd_none' {f:AO→AO}(h:H x=none):H.upd s f x=none:=by
 unfold Ag.upd;split
 ·rename_i e;rw[←e,h];rfl
 ·exact h
theorem upd_upd {f g:AO→AO}{a:AO}(h:H s=some a)(e:g (f a)=a):(H.upd s f).upd s g=H:=by
 funext x;unfold Ag.upd;by_cases h1:x=s
 ·subst h1;simp only[if_true];rw[h];simp[e]
 ·simp[h1]
theorem undoL_no (hn:∀ u ∈ us,u.pos≠x)(H:Ag):H.undoL us x=H x:=by
 induction us with
 | nil=>rfl
 | cons u us ih =>
  show (H.undoL us).undo1 u x=_;rw[←ih fun u hu=>hn u (.tail _ hu)]
  have:=hn u (.head _);rw[undo1_upd];unfold Ag.upd;rw[if_neg fun e=>this e.symm]
theorem relL_one {a:AO}:∀ (zs:List (Nat×Nat))(H:Ag),H x=some a→(∀ z ∈ zs,z.1=x→z.2=1)→((∃ z ∈ zs,z.1=x)∨a.second 2=a)→H.relL zs x=some (a.second 2)
 | [],H,h,_,h2=>by
  rcases h2 with⟨z,hz,_⟩|h2
  ·cases hz
  ·rw[h2];exact h
 | z::zs,H,h,h1,h2=>by
  show (H.rel1 z).relL zs x=_;by_cases e:z.1=x
  ·have e2:=h1 z (.head _) e
   have e3:(H.rel1 z) x=some (a.second 2):=by unfold Ag.rel1 Ag.upd;rw[e,if_pos rfl,h,e2];rfl
   rw[relL_one zs _ e3 (fun y hy=>h1 y (.tail _ hy)) (.inr rfl)];rfl
  ·have e3:(H.rel1 z) x=some a:=by unfold Ag.rel1 Ag.upd;rw[if_neg fun k=>e k.symm];exact h
   refine relL_one zs _ e3 (fun y hy=>h1 y (.tail _ hy)) (h2.imp (fun⟨y,hy,hx⟩=>?_) id)
   rcases List.mem_cons.1 hy with rfl|hy
   ·exact absurd hx e
   ·exact⟨y,hy,hx⟩
theorem relL_zero {a:AO}:∀ (zs:List (Nat×Nat))(H:Ag),H x=some a→(a.fr=true∨(x,0) ∈ zs)→∃ b,H.relL zs x=some b∧b.fr=true
 | [],H,h,h1=>⟨a,h,h1.resolve_right (by simp)⟩
 | z::zs,H,h,h1=>by
  show ∃ b,(H.rel1 z).relL zs x=_∧_;by_cases e:z.1=x
  ·have e3:(H.rel1 z) x=some (if z.2=0 then (a.second 0).free true else a.second (2*z.2)):=by unfold Ag.rel1 Ag.upd;rw[e,if_pos rfl,h];rfl
   refine relL_zero zs _ e3 ?_;rcases h1 with h1|h1
   ·left;split
    ·rfl
    ·exact h1
   ·rcases List.mem_cons.1 h1 with rfl|h1
    ·exact .inl rfl
    ·exact .inr h1
  ·have e3:(H.rel1 z) x=some a:=by unfold Ag.rel1 Ag.upd;rw[if_neg fun k=>e k.symm];exact h
   refine relL_zero zs _ e3 (h1.imp id fun h1=>?_)
   rcases List.mem_cons.1 h1 with rfl|h1
   ·exact absurd rfl e
   ·exact h1
theorem relL_some:∀ (zs:List (Nat×Nat))(H:Ag){b:AO},H.relL zs x=some b→∃ a,H x=some a
 | [],_,b,h=>⟨b,h⟩
 | z::zs,H,b,h=>by
  obtain⟨a,ha⟩:=relL_some zs (H.rel1 z) h;unfold Ag.rel1 Ag.upd at ha
  cases e:H x with
  | none=>grind
  | some y=>exact⟨y,rfl⟩
theorem undoL_some:∀ (us:List Un)(H:Ag){b:AO},H.undoL us x=some b→∃ a,H x=some a
 | [],_,b,h=>⟨b,h⟩
 | u::us,H,b,h=>by
  refine (Option.ne_none_iff_exists'.1 fun e=>?_:∃ a,H x=some a)
  cases e2:H.undoL us x with
  | none =>
   have h:(H.undoL us).undo1 u x=some b:=h;rw[undo1_upd]at h;unfold Ag.upd at h;split at h
   ·rename_i e3;rw[←e3,e2]at h;cases h
   ·rw[e2]at h;cases h
  | some y=>obtain⟨a,ha⟩:=undoL_some us H e2;rw[e]at ha;cases ha
end
def rgO (k:Nat):AO:=⟨⟨2,2,false,false⟩,false,2,[(k+1)%4+1,0],[10+(k:Int),0]⟩
structure Tr (A:As):Prop where
 len:A.txs.length=2
 t0:(A.t 0).live=false
 h0:(A.t 0).holds=[]
 now:A.now=1
 most:A.most=1073741824
 q:A.queue=[]
 ho:A.holder=-1∨A.holder=1
 hld:A.hld
 r1:∀ x,x<4→∃ a,(A.heap.undoL (A.t 1).undos) (x+1)=some a∧a.second 2=rgO x
 r2:∀ x,x<4→A.heap.sec (x+1)=2∨A.heap.sec (x+1)=3
 r3:∀ z ∈ (A.t 1).holds,z.1≤4→z.2=1
 r4:∀ x,x<4→A.heap.sec (x+1)=3→(x+1,1) ∈ (A.t 1).holds
 new:∀ s a,4<s→A.heap s=some a→(s,0) ∈ (A.t 1).holds∨a.fr=true∧∀ u ∈ (A.t 1).undos,u.pos≠s
 dead:(A.t 1).live=false→(A.t 1).holds=[]∧(A.t 1).undos=[]∧A.holder=-1
 tk:(A.t 1).took=[]
 an:∀ s,A.ser<s→A.heap s=none
 az:A.heap 0=none
 s4:4≤A.ser
section
variable {A : As} {s j : Nat}
theorem Tr.i1 (h:Tr A):1<A.txs.length:=by rw[h.len];omega
theorem Tr.setx (h:Tr A) {x:ATx} (h1:x.live=(A.t 1).live) (h2:x.holds=(A.t 1).holds) (h3:x.undos=(A.t 1).undos) (h4:x.took=(A.t 1).took):Tr (A.tx 1 x):=by
 have e:=As.tx_t A h.i1 x;have e0:=As.tx_ne A (i:=1) (j:=0) (by omega) x
 refine⟨by rw[As.tx_len];exact h.len,by rw[e0];exact h.t0,by rw[e0];exact h.h0,h.now,h.most,h.q,h.ho,(h.hld.setx h.i1 h2 h3).hld,?_,h.r2,?_,?_,?_,?_,?_,h.an,h.az,h.s4⟩
 ·rw[e,h3];exact h.r1
 ·rw[e,h2];exact h.r3
 ·rw[e,h2];exact h.r4
 ·rw[e,h2,h3];exact h.new
 ·rw[e,h2,h3,h1];exact h.dead
 ·rw[e,h4];exact h.tk
theorem Tr.look (h:Tr A)(s:Nat):Tr (A.lookR 1 s).1:=by
 unfold As.lookR;split
 ·exact h
 ·split
  ·exact h
  ·split
   ·exact h
   ·exact h.setx rfl rfl rfl rfl
theorem lookA_at {A:As}{i s:Nat}(he:¬(A.lookR i s).2≠0):∃ a,A.heap s=some a∧a.fr=false:=by
 have he:(A.lookR i s).2=0:=by omega
 unfold As.lookR at he;split at he
 ·cases he
 ·split at he
  ·cases he
  ·rename_i a ha
   split at he
   ·cases he
   ·refine⟨a,ha,?_⟩
    cases e:a.fr
    ·rfl
    ·rw[e]at he;cases he
theorem Tr.hold (h:Tr A) {a:AO} (hl:(A.t 1).live=true) (ha:A.heap s=some a) (hf:a.fr=false):Tr (A.hold 1 s)∧(∃ v,(A.hold 1 s).heap s=some (a.second v))∧(4<s→(s,0) ∈ ((A.hold 1 s).t 1).holds)∧((A.hold 1 s).t 1).live=true:=by
 have hs0:s≠0:=fun e=>by rw[e,h.az]at ha;cases ha
 have hsec:A.heap.sec s=a.sec:=by unfold Ag.sec;rw[ha]
 have hn:4<s→(s,0) ∈ (A.t 1).holds:=fun h4=>(h.new s a h4 ha).resolve_right fun k=>by rw[hf]at k;cases k.1
 have hH:=As.hld.hold h.hld (i:=1) h.i1 ha;unfold As.hold at hH ⊢;split
 ·exact⟨h,⟨a.sec,ha⟩,hn,hl⟩
 ·rename_i hev
  rw[if_neg hev]at hH;have h4:¬4<s:=fun h4=>by
   have k:=h.hld.h 1 _ (As.t_get A h.i1) _ (hn h4);simp only at k;omega
  obtain⟨x,rfl⟩:∃ x,s=x+1:=⟨s-1,by omega⟩
  have hx:x<4:=by omega
  have h2:=(h.r2 x hx).resolve_right fun k=>hev (by rw[k])
  have e:(A.tx 1 ((A.t 1).holding (x+1) (A.heap.sec (x+1)/2))).t 1=(A.t 1).holding (x+1) (A.heap.sec (x+1)/2):=As.tx_t A h.i1 _;have e0:=As.tx_ne A (i:=1) (j:=0) (by omega) ((A.t 1).holding (x+1) (A.heap.sec (x+1)/2))
  rw[h2]at e e0 hH ⊢;have hsx:∀ y,y≠x+1→(A.heap.upd (x+1) fun a=>a.second 3).sec y=A.heap.sec y:=fun y hy=>upd_sec y (.inl hy)
  have hsx':(A.heap.upd (x+1) fun a=>a.second 3).sec (x+1)=3:=by unfold Ag.sec Ag.upd;rw[if_pos rfl,ha];rfl
  refine⟨⟨by show (A.txs.set _ _).length=2;rw[List.length_set];exact h.len,e0.symm▸h.t0,e0.symm▸h.h0,h.now,h.most,h.q,h.ho,hH.1,fun y hy=>?_,fun y hy=>?_,fun z hz hz4=>?_,fun y hy hy3=>?_,fun t b ht hb=>?_,fun hl'=>?_,?_,fun t ht=>?_,?_,h.s4⟩,⟨3,by show A.heap.upd _ _ _=_;unfold Ag.upd;rw[if_pos rfl,ha];rfl⟩,fun k=>absurd k h4,?_⟩
  ·change ∃ a,((A.heap.upd (x+1) fun a=>a.second 3).undoL ((A.tx 1 ((A.t 1).holding (x+1) (2/2))).t 1).undos) (y+1)=some a∧_
   rw[e,undoL_second];obtain⟨b,h5,h6⟩:=h.r1 y hy;unfold Ag.upd;split
   ·rename_i e2;rw[←e2];exact⟨b.second 3,by show Option.map _ (A.heap.undoL (A.t 1).undos (y+1))=_;rw[h5];rfl,h6⟩
   ·exact⟨b,h5,h6⟩
  ·change (A.heap.upd (x+1) fun a=>a.second 3).sec (y+1)=2∨(A.heap.upd (x+1) fun a=>a.second 3).sec (y+1)=3
   by_cases e2:y=x
   ·subst e2;exact .inr hsx'
   ·rw[hsx (y+1) (by omega)];exact h.r2 y hy
  ·change z ∈ ((A.tx 1 ((A.t 1).holding (x+1) (2/2))).t 1).holds at hz
   rw[e]at hz;rcases List.mem_append.1 (show z ∈ (A.t 1).holds++[_] from hz) with hz|hz
   ·exact h.r3 z hz hz4
   ·rw[List.mem_singleton.1 hz]
  ·change (A.heap.upd (x+1) fun a=>a.second 3).sec (y+1)=3 at hy3
   change (y+1,1) ∈ ((A.tx 1 ((A.t 1).holding (x+1) (2/2))).t 1).holds;rw[e];show _ ∈ (A.t 1).holds++[_];by_cases e2:y=x
   ·subst e2;simp
   ·rw[hsx (y+1) (by omega)]at hy3;exact List.mem_append_left _ (h.r4 y hy hy3)
  ·change A.heap.upd (x+1) _ t=some b at hb
   change (t,0) ∈ ((A.tx 1 ((A.t 1).holding (x+1) (2/2))).t 1).holds∨b.fr=true∧∀ u ∈ ((A.tx 1 ((A.t 1).holding (x+1) (2/2))).t 1).undos,_;rw[e];unfold Ag.upd at hb;rw[if_neg (by omega)]at hb
   exact (h.new t b ht hb).imp (fun k=>List.mem_append_left _ k) id
  ·change ((A.tx 1 ((A.t 1).holding (x+1) (2/2))).t 1).live=false at hl'
   rw[e]at hl';have hl':(A.t 1).live=false:=hl';rw[hl]at hl';cases hl'
  ·change ((A.tx 1 ((A.t 1).holding (x+1) (2/2))).t 1).took=[]
   rw[e];exact h.tk
  ·show A.heap.upd _ _ t=none
   unfold Ag.upd;rw[if_neg (by intro k;have:=h.s4;change A.ser<t at ht;omega)];exact h.an t ht
  ·change A.heap.upd (x+1) (fun a=>a.second 3) 0=none
   unfold Ag.upd;rw[if_neg (by omega)];exact h.az
  ·change ((A.tx 1 ((A.t 1).holding (x+1) (2/2))).t 1).live=true
   rw[e];exact hl
theorem Tr.chg (h:Tr A) (hl:(A.t 1).live=true) {a:AO} (ha:A.heap s=some a) (hf:a.fr=false) {u:Un} {f:AO→AO} (hu:u.pos=s) (hk:u.kind=1→a.shp.weak=false) (h1:∀ a,(f a).sec=a.sec) (h2:∀ a,(f a).shp=a.shp)
  (h3:∀ v,u.f (f (a.second v))=a.second v):Tr (A.chg 1 s u f).A:=by
 have hh:=(h.hld.chg (i:=1) h.i1 ha hu hk h1 h2).1;obtain⟨hB,⟨v,hv⟩,hn,hlB⟩:=h.hold hl ha hf;unfold As.chg at hh ⊢;generalize A.hold 1 s=B at *;have e:(B.tx 1 ((B.t 1).undo u)).t 1=(B.t 1).undo u:=As.tx_t B hB.i1 _;have e0:=As.tx_ne B (i:=1) (j:=0) (by omega) ((B.t 1).undo u)
 have hsec:∀ y,(B.heap.upd s f).sec y=B.heap.sec y:=fun y=>upd_sec y (.inr h1)
 have hback:(B.heap.upd s f).undo1 u=B.heap:=by rw[undo1_upd,hu];exact upd_upd hv (h3 v)
 refine⟨by show (B.txs.set _ _).length=2;rw[List.length_set];exact hB.len,e0.symm▸hB.t0,e0.symm▸hB.h0,hB.now,hB.most,hB.q,hB.ho,hh,fun y hy=>?_,fun y hy=>?_,?_,fun y hy hy3=>?_,fun t b ht hb=>?_,fun hl'=>?_,?_,fun t ht=>?_,?_,hB.s4⟩
 ·change ∃ a,((B.heap.upd s f).undoL ((B.tx 1 ((B.t 1).undo u)).t 1).undos) (y+1)=some a∧_
  rw[e];change ∃ a,((B.heap.upd s f).undoL ((B.t 1).undos++[u])) (y+1)=some a∧_;rw[undoL_snoc,hback];exact hB.r1 y hy
 ·change (B.heap.upd s f).sec (y+1)=2∨(B.heap.upd s f).sec (y+1)=3
  rw[hsec];exact hB.r2 y hy
 ·change ∀ z ∈ ((B.tx 1 ((B.t 1).undo u)).t 1).holds,_
  rw[e];exact hB.r3
 ·change (B.heap.upd s f).sec (y+1)=3 at hy3
  change _ ∈ ((B.tx 1 ((B.t 1).undo u)).t 1).holds;rw[hsec]at hy3;rw[e];exact hB.r4 y hy hy3
 ·change (B.heap.upd s f) t=some b at hb
  change (t,0) ∈ ((B.tx 1 ((B.t 1).undo u)).t 1).holds∨b.fr=true∧∀ u' ∈ ((B.tx 1 ((B.t 1).undo u)).t 1).undos,_;rw[e];by_cases hts:t=s
  ·subst hts;exact .inl (hn ht)
  ·unfold Ag.upd at hb
   rw[if_neg hts]at hb;refine (hB.new t b ht hb).imp id fun k=>⟨k.1,fun w hw=>?_⟩
   rcases List.mem_append.1 (show w ∈ (B.t 1).undos++[u] from hw) with hw|hw
   ·exact k.2 w hw
   ·rw[List.mem_singleton.1 hw,hu];exact fun q=>hts q.symm
 ·change ((B.tx 1 ((B.t 1).undo u)).t 1).live=false at hl'
  rw[e]at hl';rw[show ((B.t 1).undo u).live=true from hlB]at hl';cases hl'
 ·change ((B.tx 1 ((B.t 1).undo u)).t 1).took=[]
  rw[e];exact hB.tk
 ·change (B.heap.upd s f) t=none
  exact upd_none' (hB.an t ht)
 ·change (B.heap.upd s f) 0=none
  exact upd_none' hB.az
theorem look_live (A:As)(i s:Nat)(hi:i<A.txs.length):((A.lookR i s).1.t i).live=(A.t i).live:=by
 unfold As.lookR;split
 ·rfl
 ·split
  ·rfl
  ·split
   ·rfl
   ·rw[As.tx_t A hi];rfl
theorem Tr.read (h:Tr A)(s j:Nat):Tr (A.readR 1 s j).A:=by unfold As.readR;split<;>exact h.look s
theorem Tr.get (h:Tr A)(s j:Nat):Tr (A.getR 1 s j).A:=by unfold As.getR;split<;>exact h.look s
theorem Tr.write (h:Tr A)(hl:(A.t 1).live=true)(s j:Nat)(v:Int):Tr (A.writeR 1 s j v).A:=by
 unfold As.writeR;split
 ·exact h.look s
 ·rename_i he
  split
  ·exact h.look s
  ·rename_i hn
   obtain⟨a,ha,hf⟩:=lookA_at (fieldsA0 he);have hh:=lookA_heap A 1 s;unfold Ag.num at hn ⊢;rw[ha]at hn ⊢;simp only at hn ⊢
   cases hj:a.nums[j]? with
   | none=>rw[hj]at hn;simp at hn
   | some n =>
    refine Tr.chg (h.look s) (by rw[look_live A 1 s h.i1];exact hl) (by rw[hh];exact ha) hf rfl (fun k=>(by cases k)) (fun _=>rfl) (fun _=>rfl) fun w=>?_
    obtain⟨hj',hj⟩:=List.getElem?_eq_some_iff.1 hj;show AO.num (AO.num (a.second w) j v) j n=a.second w;unfold AO.num AO.second;simp[←hj]
theorem Tr.put (h:Tr A)(hl:(A.t 1).live=true)(s j q:Nat):Tr (A.putR 1 s j q).A:=by
 unfold As.putR;split
 ·exact h.look s
 ·rename_i he
  split
  ·exact h.look s
  ·rename_i hn
   obtain⟨a,ha,hf⟩:=lookA_at (fieldsA0 he);have hh:=lookA_heap A 1 s;have hw:=fieldsA_wk he;unfold Ag.ptr at hn ⊢;unfold Ag.wk at hw;rw[ha]at hn hw ⊢;simp only at hn ⊢
   cases hj:a.ptrs[j]? with
   | none=>rw[hj]at hn;simp at hn
   | some n =>
    refine Tr.chg (h.look s) (by rw[look_live A 1 s h.i1];exact hl) (by rw[hh];exact ha) hf rfl (fun _=>hw) (fun _=>rfl) (fun _=>rfl) fun w=>?_
    obtain⟨hj',hj⟩:=List.getElem?_eq_some_iff.1 hj;show AO.ptr (AO.ptr (a.second w) j q) j ((n:Int).toNat)=a.second w;unfold AO.ptr AO.second;simp[←hj]
theorem Tr.free (h:Tr A)(hl:(A.t 1).live=true)(s:Nat):Tr (A.freeR 1 s).A:=by
 unfold As.freeR;split
 ·exact h.look s
 ·rename_i he
  obtain⟨a,ha,hf⟩:=lookA_at he;have hh:=lookA_heap A 1 s;refine Tr.chg (h.look s) (by rw[look_live A 1 s h.i1];exact hl) (by rw[hh];exact ha) hf rfl (fun k=>(by cases k)) (fun _=>rfl) (fun _=>rfl) fun w=>?_
  show AO.free (AO.free (a.second w) true) (decide ((0:Int)≠0))=a.second w;unfold AO.free AO.second;simp[hf]
theorem Tr.alloc (h:Tr A) (hl:(A.t 1).live=true) (s:Shp) (m:Bool):Tr (A.allocR 1 s m).A:=by
 unfold As.allocR;split
 ·exact h
 ·have hh:=(h.hld.lay (i:=1) h.i1 (h.an _ (Nat.lt_succ_self _)) s (List.replicate s.p 0)).hld
  have e:(A.tx 1 ((A.t 1).holding (A.ser+1) 0)).t 1=(A.t 1).holding (A.ser+1) 0:=As.tx_t A h.i1 _;have e0:=As.tx_ne A (i:=1) (j:=0) (by omega) ((A.t 1).holding (A.ser+1) 0)
  have h4:=h.s4;unfold As.lay at hh ⊢;obtain⟨G,hG⟩:∃ G:Ag,G=fun x=>if x=A.ser+1 then some ⟨s,false,2*1+1,List.replicate s.p 0,List.replicate s.d 0⟩ else A.heap x:=⟨_,rfl⟩
  have g1:∀ x,x≤A.ser→G x=A.heap x:=fun x hx=>by rw[hG];simp only;rw[if_neg (by omega)]
  have g2:∀ x,x≤A.ser→G.sec x=A.heap.sec x:=fun x hx=>by unfold Ag.sec;rw[g1 x hx]
  rw[←hG]at hh ⊢;refine⟨by show (A.txs.set _ _).length=2;rw[List.length_set];exact h.len,e0.symm▸h.t0,e0.symm▸h.h0,h.now,h.most,h.q,h.ho,hh,fun y hy=>?_,fun y hy=>?_,fun z hz hz4=>?_,fun y hy hy3=>?_,fun t b ht hb=>?_,fun hl'=>?_,?_,fun t ht=>?_,?_,Nat.le_succ_of_le h4⟩
  ·change ∃ a,(G.undoL ((A.tx 1 ((A.t 1).holding (A.ser+1) 0)).t 1).undos) (y+1)=some a∧_
   rw[e,undoL_at (H':=A.heap) (g1 (y+1) (by omega))];exact h.r1 y hy
  ·change G.sec (y+1)=2∨G.sec (y+1)=3
   rw[g2 _ (by omega)];exact h.r2 y hy
  ·change z ∈ ((A.tx 1 ((A.t 1).holding (A.ser+1) 0)).t 1).holds at hz
   rw[e]at hz;rcases List.mem_append.1 (show z ∈ (A.t 1).holds++[_] from hz) with hz|hz
   ·exact h.r3 z hz hz4
   ·rw[List.mem_singleton.1 hz]at hz4;simp only at hz4;omega
  ·change G.sec (y+1)=3 at hy3
   change _ ∈ ((A.tx 1 ((A.t 1).holding (A.ser+1) 0)).t 1).holds;rw[g2 _ (by omega)]at hy3
   rw[e];exact List.mem_append_left _ (h.r4 y hy hy3)
  ·change G t=some b at hb
   change (t,0) ∈ ((A.tx 1 ((A.t 1).holding (A.ser+1) 0)).t 1).holds∨b.fr=true∧∀ u' ∈ ((A.tx 1 ((A.t 1).holding (A.ser+1) 0)).t 1).undos,_;rw[e];by_cases ht1:t=A.ser+1
   ·left;subst ht1;exact List.mem_append_right _ (.head _)
   ·rw[hG]at hb;simp only at hb;rw[if_neg ht1]at hb
    exact (h.new t b ht hb).imp (fun k=>List.mem_append_left _ k) id
  ·change ((A.tx 1 ((A.t 1).holding (A.ser+1) 0)).t 1).live=false at hl'
   rw[e]at hl';rw[show ((A.t 1).holding (A.ser+1) 0).live=true from hl]at hl';cases hl'
  ·change ((A.tx 1 ((A.t 1).holding (A.ser+1) 0)).t 1).took=[]
   rw[e];exact h.tk
  ·change G t=none
   change A.ser+1<t at ht;rw[hG];simp only;rw[if_neg (by omega)];exact h.an t (by omega)
  ·change G 0=none
   rw[g1 0 (Nat.zero_le _)];exact h.az
theorem Tr.take (h:Tr A)(hl:(A.t 1).live=true):Tr (A.takeR 1).A:=by
 unfold As.takeR;split
 ·exact h
 ·rw[h.q]
  show Tr { A with queue:=[],holder:=((1:Nat):Int) };rw[show ({ A with queue:=[],holder:=((1:Nat):Int) }:As)={ A with holder:=((1:Nat):Int) } from by rw[←h.q]]
  exact⟨h.len,h.t0,h.h0,h.now,h.most,h.q,.inr rfl,h.hld.meta rfl rfl,h.r1,h.r2,h.r3,h.r4,h.new,(fun k=>by rw[show (({ A with holder:=((1:Nat):Int) }:As).t 1).live=(A.t 1).live from rfl,hl]at k;cases k),h.tk,h.an,h.az,h.s4⟩
theorem Tr.abort (h:Tr A):Tr (A.abort 1)∧((A.abort 1).t 1).live=false:=by
 have hh:=(h.hld.abort (i:=1) h.i1).hld;have hU:∃ q,(A.h ((A.heap.undoL (A.t 1).undos).relL (A.t 1).holds)).untake 1={ A with heap:=(A.heap.undoL (A.t 1).undos).relL (A.t 1).holds,holder:=q }∧q=-1:=by
  unfold As.untake;change ∃ q,(if A.holder=((1:Nat):Int) then ({ A with heap:=(A.heap.undoL (A.t 1).undos).relL (A.t 1).holds,queue:=(A.t 1).took++A.queue,holder:=-1 }:As) else ({ A with heap:=(A.heap.undoL (A.t 1).undos).relL (A.t 1).holds }:As))=_∧_
  rw[h.tk,h.q];have hq:=h.q;rcases h.ho with k|k
  ·refine⟨-1,?_,rfl⟩
   rw[if_neg (by rw[k];decide),←k]
  ·refine⟨-1,?_,rfl⟩
   rw[if_pos (by rw[k];rfl)]
   show ({ A with heap:=_,queue:=[],holder:=-1 }:As)=_;rw[←hq]
 obtain⟨q,hU,hq1⟩:=hU;unfold As.abort at hh ⊢;rw[hU]at hh ⊢;obtain⟨G,hG⟩:∃ G:Ag,G=(A.heap.undoL (A.t 1).undos).relL (A.t 1).holds:=⟨_,rfl⟩;rw[←hG]at hh ⊢;obtain⟨B,hB⟩:∃ B:As,B={ A with heap:=G,holder:=q }:=⟨_,rfl⟩;rw[←hB]at hh ⊢;have hlen:B.txs.length=2:=by rw[hB];exact h.len
 have hBt:∀ i,B.t i=A.t i:=fun i=>by rw[hB];rfl
 have hBh:B.heap=G:=by rw[hB]
 have e:(B.tx 1 (A.t 1).ended).t 1=(A.t 1).ended:=As.tx_t B (by omega) _
 have e0:(B.tx 1 (A.t 1).ended).t 0=A.t 0:=(As.tx_ne B (i:=1) (j:=0) (by omega) _).trans (hBt 0)
 have hr:∀ x,x<4→G (x+1)=some (rgO x):=fun x hx=>by
  obtain⟨a,h1,h2⟩:=h.r1 x hx;rw[hG,←h2];refine relL_one _ _ h1 (fun z hz e=>h.r3 z hz (by omega)) ?_
  rcases h.r2 x hx with k|k
  ·right
   have:(A.heap.undoL (A.t 1).undos).sec (x+1)=2:=by rw[undoL_sec];exact k
   unfold Ag.sec at this;rw[h1]at this;unfold AO.second;rw[←this]
  ·exact .inl ⟨_,h.r4 x hx k,rfl⟩
 refine⟨⟨by rw[As.tx_len];exact hlen,by rw[e0];exact h.t0,by rw[e0];exact h.h0,by rw[hB];exact h.now,by rw[hB];exact h.most,by rw[hB];exact h.q,.inl (by rw[hB];exact hq1),hh,fun x hx=>?_,fun x hx=>?_,?_,fun x hx h3=>?_,fun s b hs hb=>?_,fun _=>?_,?_,fun s hs=>?_,?_,by rw[hB];exact h.s4⟩,by rw[e];rfl⟩
 ·rw[e];exact⟨rgO x,by show B.heap (x+1)=_;rw[hBh];exact hr x hx,rfl⟩
 ·left;show B.heap.sec (x+1)=2;unfold Ag.sec;rw[hBh,hr x hx];rfl
 ·rw[e];intro z hz;cases hz
 ·have:B.heap.sec (x+1)=2:=by unfold Ag.sec;rw[hBh,hr x hx];rfl
  change B.heap.sec (x+1)=3 at h3;omega
 ·change B.heap s=some b at hb
  rw[hBh,hG]at hb;right;obtain⟨a1,k1⟩:=relL_some _ _ hb;obtain⟨a0,k0⟩:=undoL_some _ _ k1;have k2:a1.fr=true∨(s,0) ∈ (A.t 1).holds:=by
   rcases h.new s a0 hs k0 with k|k
   ·exact .inr k
   ·left;rw[undoL_no k.2,k0]at k1;injection k1 with k1;rw[←k1];exact k.1
  obtain⟨b',k3,k4⟩:=relL_zero _ _ k1 k2;rw[hb]at k3;injection k3 with k3;rw[e];exact⟨by rw[k3];exact k4,fun u hu=>by cases hu⟩
 ·rw[e];exact⟨rfl,rfl,by rw[hB];exact hq1⟩
 ·rw[e];rfl
 ·show B.heap s=none
  have hs:A.ser<s:=by rw[hB]at hs;exact hs
  cases k:B.heap s with
  | none=>rfl
  | some b =>
   rw[hBh,hG]at k;obtain⟨a1,k1⟩:=relL_some _ _ k;obtain⟨a0,k0⟩:=undoL_some _ _ k1;rw[h.an s hs]at k0;cases k0
 ·show B.heap 0=none
  cases k:B.heap 0 with
  | none=>rfl
  | some b =>
   rw[hBh,hG]at k;obtain⟨a1,k1⟩:=relL_some _ _ k;obtain⟨a0,k0⟩:=undoL_some _ _ k1;rw[h.az]at k0;cases k0
theorem Tr.fin {r:ARes}(h:Tr r.A):Tr (r.fin 1).A:=by
 unfold ARes.fin;split
 ·exact h.abort.1
 ·split<;>exact h
theorem Tr.deed (h:Tr A){r:ARes}(hr:(A.t 1).live=true→Tr r.A):Tr (A.deedR 1 r).A:=by
 unfold As.deedR;split
 ·rename_i e;exact (hr e).fin
 ·exact h
theorem Tr.ring (h:Tr A)(hl:(A.t 1).live=false){x:Nat}(hx:x<4):A.heap (x+1)=some (rgO x):=by
 obtain⟨h1,h2,_⟩:=h.dead hl;obtain⟨a,h3,h4⟩:=h.r1 x hx;rw[h2]at h3;have h3:A.heap (x+1)=some a:=h3;have h5:A.heap.sec (x+1)=2:=(h.r2 x hx).resolve_right fun k=>by have:=h.r4 x hx k;rw[h1]at this;cases this
 unfold Ag.sec at h5;rw[h3]at h5;rw[h3,←h4];unfold AO.second;rw[←h5]
end
end Go.Proofs.YteehgedabdchcaaGreat
