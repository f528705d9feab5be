import Derived.Test.YteehgedabdchcaaGreatKak
set_option linter.all false
set_option maxRecDepth 1000000
set_option maxHeartbeats 16000000
open Go renaming World->Aa,Calls->Ab,Value->Ac
open Go.RowKit renaming Below->Ae
open Go.Value renaming int->I,pointer->Ag,slice->Ah,tuple->Aj,agg->Ak
open Go.IntKind renaming i64->Z
open Go.Ending renaming returned->O
namespace Go.Proofs.YteehgedabdchcaaGreat
section
open Go.RowKit Hp
attribute [local go_sem ↓] Go.wp_at_zero Go.wp_at_succ
def EL:B3:=⟨0,0,false,false⟩
def Tx.read (x:Tx)(p:Nat):Tx:={ x with log:={ x.log with reads:=yk x.log.reads p x.log.mr } }
def Tx.keep (x:Tx)(p:Nat):Tx:={ x with log:={ x.log with keeps:=yk x.log.keeps p x.log.mr } }
def Tx.holding (x:Tx)(p v:Nat):Tx:={ x with log:={ x.log with holds:=x.log.holds++[(p,v)] } }
def Tx.DR (x:Tx)(u:Un):Tx:={ x with log:={ x.log with Au:=x.log.Au++[u] } }
def wb (L:Lg)(p:Nat):Bool:=decide (∀ z ∈ L.holds,z.1≠p)&&decide (L.holds.length<L.mu)
def Al.AK (S:Al)(i p:Nat):Al×Int×B3:=
 if p=0 then (S,143,EL) else match lk S.H.cur p with
 | none=>(S,70,EL)
 | some ob=>if vg i (S.t i).start ob.second=true then (S,141,EL) else
   (S.tx i ((S.t i).read p),if wv (S.t i).log.reads p (S.t i).log.mr then (if ob.Cn then 142 else 0) else 130,if wv (S.t i).log.reads p (S.t i).log.mr&&!ob.Cn then ob.AN else EL)
def Al.Ar (S:Al)(i p:Nat):Al×Int:=((S.AK i p).1,if (S.AK i p).2.1=0 then (if (S.AK i p).2.2.Az then 144 else 0) else (S.AK i p).2.1)
def Al.BC (S:Al)(i:Nat)(u:Un):Al×Bool:=if (S.t i).log.Au.length<(S.t i).log.mu then (S.tx i ((S.t i).DR u),true) else (S,false)
def Al.AZ (S:Al)(i p v:Nat):Al×Bool:=if wb (S.t i).log p=true then (S.tx i ((S.t i).holding p v),true) else (S,false)
def Al.DW (S:Al)(i p:Nat):Al:={ S with H:=(S.H.AB p (2*i+1)).1 }
def Al.A2 (S:Al)(i p:Nat):Al×Bool:=
 if S.H.sec p%2=1 then (S,true) else if (S.AZ i p (S.H.sec p/2)).2=true then ((S.AZ i p (S.H.sec p/2)).1.DW i p,true) else (S,false)
theorem Vz (l:List Nat)(p m:Nat)(h:l.length<=m):(yk l p m).length<=m:=by
 unfold yk;split
 ·exact h
 ·split
  ·simp;omega
  ·exact h
theorem Lg.J2 {L:Lg}(h:L.fit)(p:Nat):Lg.fit { L with reads:=yk L.reads p L.mr }:=⟨⟨h.ok.mr,h.ok.mu,Vz _ _ _ h.ok.r,h.ok.k,h.ok.h,h.ok.u⟩,h.hv,h.un,h.kd⟩
theorem Lg.Gm {L:Lg}(h:L.fit)(p:Nat):Lg.fit { L with keeps:=yk L.keeps p L.mr }:=⟨⟨h.ok.mr,h.ok.mu,h.ok.r,Vz _ _ _ h.ok.k,h.ok.h,h.ok.u⟩,h.hv,h.un,h.kd⟩
theorem Lg.GK {L:Lg}(h:L.fit)(p v:Nat)(hv:v<=1099511627776)(hm:L.holds.length<L.mu):Lg.fit { L with holds:=L.holds++[(p,v)] }:=
 ⟨⟨h.ok.mr,h.ok.mu,h.ok.r,h.ok.k,by simp;omega,h.ok.u⟩,fun z hz=>by
  rcases Qs.1 hz with hz|hz
  ·exact h.hv z hz
  ·rw[Za.1 hz];exact hv,h.un,h.kd⟩
theorem Lg.JP {L:Lg}(h:L.fit)(u:Un)(h1:-9223372036854775808<=u.old/\u.old<=9223372036854775807)(h2:u.kind=1->0<=u.old)(hm:L.Au.length<L.mu):Lg.fit { L with Au:=L.Au++[u] }:=
 ⟨⟨h.ok.mr,h.ok.mu,h.ok.r,h.ok.k,h.ok.h,by simp;omega⟩,h.hv,fun z hz=>by
  rcases Qs.1 hz with hz|hz
  ·exact h.un z hz
  ·rw[Za.1 hz];exact h1,fun z hz=>by
  rcases Qs.1 hz with hz|hz
  ·exact h.kd z hz
  ·rw[Za.1 hz];exact h2⟩
theorem Lg.FF {L:Lg}(h:L.fit):Lg.fit { L with reads:=[],keeps:=[],holds:=[],Au:=[] }:=
 ⟨⟨h.ok.mr,h.ok.mu,Nat.zero_le _,Nat.zero_le _,Nat.zero_le _,Nat.zero_le _⟩,fun z hz=>(by cases hz),fun z hz=>(by cases hz),fun z hz=>(by cases hz)⟩
theorem Al.ok.Em {S:Al}(hk:S.ok){i:Nat}(hi:i<S.Aw.length):(S.t i).log.fit:=hk.lg _ (Qe (Al.AV hi))
theorem Al.ok.SO {S:Al}(hk:S.ok){i:Nat}(hi:i<S.Aw.length):(S.t i).start<=S.now:=hk.st _ (Qe (Al.AV hi))
theorem Al.ok.set {S:Al}(hk:S.ok){i:Nat}(hi:i<S.Aw.length):(S.t i).seen<=S.next:=hk.se _ (Qe (Al.AV hi))
theorem Al.EH {S:Al}(hk:S.ok){i:Nat}(hi:i<S.Aw.length){L:Lg}(h:L.fit):Al.ok (S.tx i { S.t i with log:=L }):=
 Al.Pp hk (Al.AV hi) h (hk.SO hi) (hk.set hi) rfl rfl
theorem Al.LM {S:Al}(hk:S.ok){i:Nat}(hi:i<S.Aw.length)(p:Nat):Al.ok (S.tx i ((S.t i).read p)):=Al.EH hk hi (Lg.J2 (hk.Em hi) p)
theorem Al.Le {S:Al}(hk:S.ok){i:Nat}(hi:i<S.Aw.length)(p:Nat):Al.ok (S.tx i ((S.t i).keep p)):=Al.EH hk hi (Lg.Gm (hk.Em hi) p)
theorem Al.Dd {S:Al}(hk:S.ok){i:Nat}(hi:i<S.Aw.length)(p:Nat):(S.AK i p).1.ok:=by
 unfold Al.AK;split
 ·exact hk
 ·split
  ·exact hk
  ·split
   ·exact hk
   ·exact Al.LM hk hi p
theorem gz (S:Al)(i p:Nat):(S.AK i p).1.Aw.length=S.Aw.length:=by
 unfold Al.AK;split
 ·rfl
 ·split
  ·rfl
  ·split
   ·rfl
   ·exact Al.Cg _ _ _
theorem Al.Dv {S:Al}(hk:S.ok){i:Nat}(hi:i<S.Aw.length)(u:Un)(h1:-9223372036854775808<=u.old/\u.old<=9223372036854775807)(h2:u.kind=1->0<=u.old):(S.BC i u).1.ok:=by
 unfold Al.BC;split
 ·rename_i hm;exact Al.EH hk hi (Lg.JP (hk.Em hi) u h1 h2 hm)
 ·exact hk
theorem Hh (S:Al)(i:Nat)(u:Un):(S.BC i u).1.Aw.length=S.Aw.length:=by
 unfold Al.BC;split
 ·exact Al.Cg _ _ _
 ·rfl
theorem Al.C8 {S:Al}(hk:S.ok){i:Nat}(hi:i<S.Aw.length)(p v:Nat)(hv:v<=1099511627776):(S.AZ i p v).1.ok:=by
 unfold Al.AZ;split
 ·rename_i hm
  unfold wb at hm;simp only[Bool.and_eq_true,decide_eq_true_eq]at hm;exact Al.EH hk hi (Lg.GK (hk.Em hi) p v hv hm.2)
 ·exact hk
theorem xg (S:Al)(i p v:Nat):(S.AZ i p v).1.Aw.length=S.Aw.length:=by
 unfold Al.AZ;split
 ·exact Al.Cg _ _ _
 ·rfl
theorem Al.Fa {S:Al}(hk:S.ok){i:Nat}(hi:i<S.Aw.length)(p:Nat):(S.DW i p).ok:=by
 have h8:=hk.t8;exact Al.CM hk p (by omega) (fun _=>by omega)
theorem Al.Df {S:Al}(hk:S.ok){i:Nat}(hi:i<S.Aw.length)(p:Nat):(S.A2 i p).1.ok:=by
 unfold Al.A2;have h2:=(hk.sec p).2;split
 ·exact hk
 ·split
  ·exact Al.Fa (Al.C8 hk hi p _ (by omega)) (by rw[xg];exact hi) p
  ·exact hk
theorem uw (S:Al)(i p:Nat):(S.A2 i p).1.Aw.length=S.Aw.length:=by
 unfold Al.A2;split
 ·rfl
 ·split
  ·exact xg _ _ _ _
  ·rfl
section
variable {w w' : Aa} {o o' : Own} {id k b : Nat} {L : Lg} {vr vk vh vu : Ac}
theorem sn (h:Bq w o id k b L vr vk vh vu)(hk:L.ok)(p v:Nat)(hp:¬∀ x ∈ L.holds,x.1≠p) :
  Ab Tryz.prog 168 #[Ag (some ⟨b,0,none⟩),Ak #[I Z p,I Z v]] w fun e w'=>e=O (.bool false)/\Ae w.heap.size w w':=by
 have HI:=Qa h;have j:=h.AU;have c:=h.AU.cell;have s:=h.AU.lt;obtain⟨pa,cp,rfl⟩:=h.rh.AY;have hlen:=Qa (show L.holds.length<=200 by have:=hk.h;have:=hk.mu;omega)
 have HP:=Qa hp;clear h hk hp;go_enter Tryz.func168,Tryz.ntmps168;go_wp2_with fail;go_loopw [14](fun ix wr=>∃ i:Nat,ix=I Z i/\i<=L.holds.length/\(∀ (n:Nat) x,n<i->L.holds[n]?=some x->x.1≠p)/\Ae w.heap.size w wr/\Am wr w.heap.size #[I Z p,I Z v] 131)(fun ix _=>L.holds.length-(intOf ix).toNat)
 case atStart=>exact⟨0,rfl,by omega,fun n x hn=>by omega,qa (qc w) _,Am.new w _ _⟩
 case round =>
  obtain⟨i,rfl,hil,hno,hbr,jB⟩:=hrel;replace hno:=Qa hno;clear c s;have jL:=j.below hbr j.lt;have cL:=jL.cell;have sL:=jL.lt;have cB:=jB.cell;have sB:=jB.lt;have hR:=HI.out.rh.below hbr;have hlt:i<L.holds.length:=by
   refine Nat.lt_of_not_le fun hge=>HP.out fun x hx=>?_
   obtain⟨n,hn⟩:=List.getElem?_of_mem hx;exact hno.out n x (by have:=(Qc.1 hn).1;omega) hn
  obtain⟨x,hx⟩:∃ x,L.holds[i]?=some x:=⟨_,Qb hlt⟩;rcases hR.own.2 with ⟨e1,e2⟩|⟨g,cap,cur,e1,_,hg,hn,hc,_⟩
  ·omega
  ·injection e1 with e1 _ e2
   subst e1 e2;obtain⟨c0,c1⟩:=hR.ET i x hx;have sg:g<wr.heap.size:=(Qf.1 hg).1;have hI:(i:Int)<(L.holds.length:Int):=by omega
   have hI2:(i:Int)<200:=by have:=hlen.out;omega
   unfold nv at c0 c1;have hno2:=Qa (fun (hne:x.1≠p)(n:Nat) z (hn:n<i+1)(hz:L.holds[n]?=some z)=>show z.1≠p from by
    by_cases e:n=i
    ·subst e;rw[hx]at hz;injection hz with hz;subst hz;exact hne
    ·exact hno.out n z (by omega) hz)
   clear hg hR hx hc;by_cases hxp:x.1=p
   ·have hxp:(x.1:Int)=(p:Int):=by omega
    go_wp2_with fail;go_ret;exact⟨rfl,qa hbr _⟩
   ·have hno3:=Qa (hno2.out hxp)
    have hne:(x.1:Int)≠(p:Int):=by omega
    clear hno2;go_wp2_with fail;go_roundw
    case rel=>exact⟨i+1,by simp,by omega,hno3.out,qa hbr _,jB.alloc _⟩
    case measure=>simp[intOf];omega
end
section
variable {w w' : Aa} {o o' : Own} {y : A3} {S : Al} {x : Tx} {i : Nat}
theorem QQ (h:Ap w o y S)(hx:S.Aw[i]?=some x){L':Lg}{j:Nat}(hj:j=1\/j=2\/j=3\/j=4){vr vk vh vu:Ac}(hl:Bq w' o' y.l.id (17+8*i) (y.lb i) L' vr vk vh vu)(hs:Stp (fun t=>t=(y.l.id,17+8*i)\/t=(y.l.id,17+8*i+j)) o o' w w') :
  Bl y (S.tx i { x with log:=L' }) o w w'/\Stp (yx y i) o o' w w'/\Ap w' o' y (S.tx i { x with log:=L' }):=by
 have ht:=h.Aw i x hx;obtain⟨vt,hb,hr⟩:=ht.AU;have hst:Stp (yx y i) o o' w w':=hs.mono (by rintro _ (rfl|rfl)<;>exact⟨rfl,by simp<;>omega,by simp<;>omega⟩)
 have h1:Ap w' o' y (S.tx i { x with log:=L' }):=h.tx ⟨⟨vt,hb.Ao hs (by rw[ht.ob];simp;omega),hr.Ao hs (by simp;omega)⟩,⟨_,_,_,_,hl⟩,(hst.tags _ hb.lt).trans ht.ob⟩ hst
 exact⟨⟨o',h1,hst.mono fun _=>sh⟩,hst,h1⟩
theorem NV (h:Ap w o y S)(hk:S.ok)(hi:i<S.Aw.length)(p:Nat) :
  Ab Tryz.prog 183 #[ptr (y.lb i),I Z p] w fun e w'=>e=O (.bool (wv (S.t i).log.reads p (S.t i).log.mr))/\Bl y (S.tx i ((S.t i).read p)) o w w':=by
 obtain⟨vr,vk,vh,vu,hl⟩:=(h.Aw i _ (Al.AV hi)).log;refine (Hw hl (hk.Em hi).ok p).mono ?_
 rintro e w'⟨rfl,vr',o',hl',hs⟩
 exact⟨rfl,(QQ h (Al.AV hi) (.inl rfl) hl' hs).1⟩
theorem Ns (h:Ap w o y S)(hk:S.ok)(hi:i<S.Aw.length)(p:Nat) :
  Ab Tryz.prog 261 #[ptr (y.lb i),I Z p] w fun e w'=>e=O (.bool (wv (S.t i).log.keeps p (S.t i).log.mr))/\Bl y (S.tx i ((S.t i).keep p)) o w w':=by
 obtain⟨vr,vk,vh,vu,hl⟩:=(h.Aw i _ (Al.AV hi)).log;refine (Jg hl (hk.Em hi).ok p).mono ?_
 rintro e w'⟨rfl,vr',o',hl',hs⟩
 exact⟨rfl,(QQ h (Al.AV hi) (.inr (.inl rfl)) hl' hs).1⟩
theorem lu (h:Ap w o y S)(hk:S.ok)(hi:i<S.Aw.length)(u:Un) :
  Ab Tryz.prog 120 #[ptr (y.lb i),Sk u] w fun e w'=>e=O (.bool (S.BC i u).2)/\Bl y (S.BC i u).1 o w w':=by
 obtain⟨vr,vk,vh,vu,hl⟩:=(h.Aw i _ (Al.AV hi)).log;unfold Al.BC;by_cases hm:(S.t i).log.Au.length<(S.t i).log.mu
 ·rw[if_pos hm]
  refine (qd4 hl (hk.Em hi).ok u hm).mono ?_
  rintro e w'⟨rfl,vr',o',hl',hs⟩
  exact⟨rfl,(QQ h (Al.AV hi) (.inr (.inr (.inr rfl))) hl' hs).1⟩
 ·rw[if_neg hm]
  refine (Xi hl u (by omega)).mono ?_
  rintro e w'⟨rfl,hb⟩
  exact⟨rfl,h.Ee hb⟩
theorem Uv (h:Ap w o y S)(hk:S.ok)(hi:i<S.Aw.length)(p v:Nat) :
  Ab Tryz.prog 168 #[ptr (y.lb i),Ak #[I Z p,I Z v]] w fun e w'=>e=O (.bool (S.AZ i p v).2)/\Bl y (S.AZ i p v).1 o w w':=by
 obtain⟨vr,vk,vh,vu,hl⟩:=(h.Aw i _ (Al.AV hi)).log;unfold Al.AZ;by_cases hd:∀ z ∈ (S.t i).log.holds,z.1≠p
 ·by_cases hm:(S.t i).log.holds.length<(S.t i).log.mu
  ·have e1:wb (S.t i).log p=true:=by unfold wb;simp only[Bool.and_eq_true,decide_eq_true_eq];exact⟨hd,hm⟩
   rw[if_pos e1];refine (Wz hl (hk.Em hi).ok p v hd hm).mono ?_
   rintro e w'⟨rfl,vr',o',hl',hs⟩
   exact⟨rfl,(QQ h (Al.AV hi) (.inr (.inr (.inl rfl))) hl' hs).1⟩
  ·have e1:¬wb (S.t i).log p=true:=by unfold wb;simp only[Bool.and_eq_true,decide_eq_true_eq];exact fun h=>hm h.2
   rw[if_neg e1];refine (bh hl (hk.Em hi).ok p v hd (by omega)).mono ?_
   rintro e w'⟨rfl,hb⟩
   exact⟨rfl,h.Ee hb⟩
 ·have e1:¬wb (S.t i).log p=true:=by unfold wb;simp only[Bool.and_eq_true,decide_eq_true_eq];exact fun h=>hd h.1
  rw[if_neg e1];refine (sn hl (hk.Em hi).ok p v hd).mono ?_
  rintro e w'⟨rfl,hb⟩
  exact⟨rfl,h.Ee hb⟩
theorem look_nil (w:Aa)(a b:Ac) :
  Ab Tryz.prog 118 #[a,b,I Z 0] w fun e w'=>e=O (Aj #[ka EL,I Z 143])/\Ae w.heap.size w w':=by
 go_enter Tryz.func118,Tryz.ntmps118;go_wp2_with fail;refine bodyPost_ret (v:=Aj #[ka ⟨0,0,false,false⟩,I Z 143]) (by simp[results,Tryz.results118,go_sem]) rfl ⟨rfl,?_⟩
 repeat (first|exact qa (qc w) _|refine qo ?_ (Qk _) _)
theorem Lv (h:Ap w o y S)(hk:S.ok)(b:Ac){p:Nat}(hp:lk S.H.cur p=none)(h0:p≠0) :
  Ab Tryz.prog 118 #[ptr y.sb,b,I Z p] w fun e w'=>e=O (Aj #[ka EL,I Z 70])/\Ae w.heap.size w w':=by
 obtain⟨vc,vo,vw,vf,f,hh⟩:=h.hp;have HS:=Qa (fun w' (hw:Ae w.heap.size w w')=>T5 (hh.below hw) hk.H.ok hp)
 obtain⟨vq,vl,vm,jb,_⟩:=h.AU;unfold qk at jb;have c:=jb.cell;have sb:=jb.lt;clear h hk hh hp;go_enter Tryz.func118,Tryz.ntmps118;go_wp2_with fail;refine (HS.out _ (qa (qc w) _)).mono ?_
 rintro e w1 ⟨rfl,hb1⟩
 have jR:=(Am.new w #[I Z 0,I Z 0,.bool false,.bool false] 93).below hb1 (by simp)
 have hw1:=qd (qa (qc w) _) hb1;clear hb1;have cR:=jR.cell;have zR:=jR.free;have sR:=jR.lt;go_wp2_with fail;refine bodyPost_ret (v:=Aj #[ka ⟨0,0,false,false⟩,I Z 70]) (by simp[results,Tryz.results118,go_sem,cR,sR]) rfl ⟨rfl,?_⟩
 repeat (first|exact hw1|refine qo ?_ (Qk _) _|refine qa ?_ _)
theorem Yh (h:Ap w o y S)(hk:S.ok)(hi:i<S.Aw.length){p:Nat}{ob:Ob}(hp:lk S.H.cur p=some ob)(hc:vg i (S.t i).start ob.second=true)(h0:p≠0) :
  Ab Tryz.prog 118 #[ptr y.sb,ptr (y.xb i),I Z p] w fun e w'=>e=O (Aj #[ka EL,I Z 141])/\Ae w.heap.size w w':=by
 obtain⟨vc,vo,vw,vf,f,hh⟩:=h.hp;have HS:=Qa (fun w' (hw:Ae w.heap.size w w')=>RG (hh.below hw) hk.H.ok hp)
 have HC:=(fun w' (hw:Ae w.heap.size w w')=>SD (h.below hw) hk (Al.AV hi) p)
 have e1:S.H.sec p=ob.second:=by unfold Hp.sec;rw[hp]
 rw[e1,hc]at HC;replace HC:=Qa HC;obtain⟨vq,vl,vm,jb,_⟩:=h.AU;unfold qk at jb;have c:=jb.cell;have sb:=jb.lt;clear h hk hh hp hi hc e1;obtain⟨⟨sp,sd,wk,fn⟩,fr,se,sr,ps,ns⟩:=ob;simp only at HS;go_enter Tryz.func118,Tryz.ntmps118;go_wp2_with fail;refine (HS.out _ (qa (qc w) _)).mono ?_
 rintro e w1 ⟨rfl,hb1⟩
 have jR:=(Am.new w #[I Z 0,I Z 0,.bool false,.bool false] 93).below hb1 (by simp)
 have hw1:=qd (qa (qc w) _) hb1;clear hb1;go_wp2_with fail;refine (HC.out _ (qa hw1 _)).mono ?_
 rintro e w2 ⟨rfl,hb2⟩
 have jR2:=(jR.alloc (.cells #[I Z sp,I Z sd,.bool wk,.bool fn] 93)).below hb2 (jR.alloc _).lt;have hw2:=qd (qa hw1 _) hb2;clear hb2 jR c;have cR:=jR2.cell;have zR:=jR2.free;have sR:=jR2.lt;go_wp2_with fail;refine bodyPost_ret (v:=Aj #[ka ⟨0,0,false,false⟩,I Z 141]) (by simp[results,Tryz.results118,go_sem,cR]) rfl ⟨rfl,?_⟩
 repeat (first|exact hw2|refine qo ?_ (Qk _) _)
theorem Bl.from (h0:Stp (qh y) o o' w w'){w2:Aa}{S':Al}(h:Bl y S' o' w' w2):Bl y S' o w w2:=by
 obtain⟨o2,h1,h2⟩:=h;exact⟨o2,h1,h0.trans h2⟩
theorem LL (h0:Ap w o y S)(hk:S.ok)(hi:i<S.Aw.length){p:Nat}{ob:Ob}(hp:lk S.H.cur p=some ob)(hc:vg i (S.t i).start ob.second=false)(hp0:p≠0) :
  Ab Tryz.prog 118 #[ptr y.sb,ptr (y.xb i),I Z p] w fun e w' =>
   e=O (Aj #[ka (if wv (S.t i).log.reads p (S.t i).log.mr&&!ob.Cn then ob.AN else EL),I Z (if wv (S.t i).log.reads p (S.t i).log.mr then (if ob.Cn then 142 else 0) else 130)])/\Bl y (S.tx i ((S.t i).read p)) o w w':=by
 obtain⟨o1,ho1⟩:∃ o1,o1=ext o w.heap.size (y.l.id+1,0):=⟨_,rfl⟩;have h:=h0.retag (o':=o1) fun b hb=>by rw[ho1];exact qj hb
 have hS0:Stp (qh y) o o1 w w:=by rw[ho1];exact (Stp.refl _ o w).ext _ _ (Qk _)
 have hbx:∀ b,w.heap.size<=b->o1 b=(y.l.id+1,0):=fun b hb=>by rw[ho1];exact qp hb
 clear ho1 h0;obtain⟨vc,vo,vw,vf,f,hh⟩:=h.hp;have HS:=Qa (fun w' (hw:Ae w.heap.size w w')=>RG (hh.below hw) hk.H.ok hp)
 have HC:=(fun w' (hw:Ae w.heap.size w w')=>SD (h.below hw) hk (Al.AV hi) p)
 have e1:S.H.sec p=ob.second:=by unfold Hp.sec;rw[hp]
 rw[e1,hc]at HC;replace HC:=Qa HC;have HL:=Qa (fun w' (hw:Ae w.heap.size w w')=>NV (h.below hw) hk hi p)
 obtain⟨vt,jx,_⟩:=(h.Aw i _ (Al.AV hi)).AU;unfold zg at jx;obtain⟨vq,vl,vm,jb,_⟩:=h.AU;unfold qk at jb;have c:=jb.cell;have sb:=jb.lt;generalize wv (S.t i).log.reads p (S.t i).log.mr=nb at *;generalize S.tx i ((S.t i).read p)=S' at *;clear h hk hh hp hc e1;obtain⟨⟨sp,sd,wk,fn⟩,fr,se,sr,ps,ns⟩:=ob;simp only at HS;go_enter Tryz.func118,Tryz.ntmps118;go_wp2_with fail;refine (HS.out _ (qa (qc w) _)).mono ?_
 rintro e w1 ⟨rfl,hb1⟩
 have jR:=(Am.new w #[I Z 0,I Z 0,.bool false,.bool false] 93).below hb1 (by simp)
 have hw1:=qd (qa (qc w) (.cells #[I Z 0,I Z 0,.bool false,.bool false] 93)) hb1;have hz1:w.heap.size<w1.heap.size:=jR.lt;clear hb1;go_wp2_with fail;refine (HC.out _ (qa hw1 _)).mono ?_
 rintro e w2 ⟨rfl,hb2⟩
 have jR2:=(jR.alloc (.cells #[I Z sp,I Z sd,.bool wk,.bool fn] 93)).below hb2 (jR.alloc _).lt;have jS2:=(Am.new w1 #[I Z sp,I Z sd,.bool wk,.bool fn] 93).below hb2 (by simp)
 have hw2:=qd (qa hw1 (.cells #[I Z sp,I Z sd,.bool wk,.bool fn] 93)) hb2;clear hb2 jR c;have cx:=(jx.below hw2 jx.lt).cell;go_wp2_with fail;refine (HL.out _ hw2).mono ?_
 rintro e w3 ⟨rfl,o3,hl3,hs3⟩
 have hnb:∀ b,w.heap.size<=b->¬qh y (o1 b):=fun b hb=>by rw[hbx b hb];exact qm y
 have jR3:=jR2.Ao hs3 (hnb _ (Qk _));have t3:o3 w.heap.size=(y.l.id+1,0):=(hs3.tags _ jR2.lt).trans (hbx _ (Qk _));have jS3:=jS2.Ao hs3 (hnb _ (by omega))
 have hst:Stp (qh y) o o3 w w3:=hS0.trans ((Stp.of_below hw2).trans hs3);clear cx jR2 jS2 hs3 hnb;have cR:=jR3.cell;have zR:=jR3.free;have sR:=jR3.lt;have cS:=jS3.cell;have sS:=jS3.lt;have H2:=Qa hl3;have H3:=Qa hst;clear hl3 hst hS0
 cases nb
 ·go_wp2_with fail
  refine bodyPost_ret (v:=Aj #[ka ⟨0,0,false,false⟩,I Z 130]) (by simp[results,Tryz.results118,go_sem,cR]) rfl ⟨by cases fr<;>rfl,o3,?_,?_⟩
  ·repeat (first|exact H2.out|refine Ap.box ?_ t3 _)
  ·repeat (first|exact H3.out|refine Stp.setCell_new ?_ (Qk _) _)
 ·cases fr
  ·go_wp2_with fail
   refine bodyPost_ret (v:=Aj #[ka ⟨sp,sd,wk,fn⟩,I Z 0]) (by simp[results,Tryz.results118,go_sem,cR]) rfl ⟨rfl,o3,?_,?_⟩
   ·repeat (first|exact H2.out|refine Ap.box ?_ t3 _)
   ·repeat (first|exact H3.out|refine Stp.setCell_new ?_ (Qk _) _)
  ·go_wp2_with fail
   refine bodyPost_ret (v:=Aj #[ka ⟨0,0,false,false⟩,I Z 142]) (by simp[results,Tryz.results118,go_sem,cR]) rfl ⟨rfl,o3,?_,?_⟩
   ·repeat (first|exact H2.out|refine Ap.box ?_ t3 _)
   ·repeat (first|exact H3.out|refine Stp.setCell_new ?_ (Qk _) _)
theorem Rk (h:Ap w o y S)(hk:S.ok)(hi:i<S.Aw.length)(p:Nat) :
  Ab Tryz.prog 118 #[ptr y.sb,ptr (y.xb i),I Z p] w fun e w' =>
   e=O (Aj #[ka (S.AK i p).2.2,I Z (S.AK i p).2.1])/\Bl y (S.AK i p).1 o w w':=by
 unfold Al.AK;by_cases h0:p=0
 ·subst h0
  rw[if_pos rfl];exact (look_nil w _ _).mono fun _ _⟨a,b⟩=>⟨a,h.Ee b⟩
 ·rw[if_neg h0]
  cases hp:lk S.H.cur p with
  | none=>exact (Lv h hk _ hp h0).mono fun _ _⟨a,b⟩=>⟨a,h.Ee b⟩
  | some ob =>
   simp only
   cases hc:vg i (S.t i).start ob.second with
   | true=>rw[if_pos rfl];exact (Yh h hk hi hp hc h0).mono fun _ _⟨a,b⟩=>⟨a,h.Ee b⟩
   | false=>rw[if_neg (by simp)];exact LL h hk hi hp hc h0
theorem my (h:Ap w o y S)(hk:S.ok)(hi:i<S.Aw.length)(p:Nat) :
  Ab Tryz.prog 136 #[ptr y.sb,ptr (y.xb i),I Z p] w fun e w'=>e=O (I Z (S.Ar i p).2)/\Bl y (S.Ar i p).1 o w w':=by
 have HL:=Rk h hk hi p;unfold Al.Ar;generalize S.AK i p=r at *;obtain⟨S',e',s⟩:=r;obtain⟨sp,sd,wk,fn⟩:=s;simp only at HL ⊢;replace HL:=Qa HL;clear h hk hi;by_cases he:e'=0
 ·subst he
  cases wk
  all_goals
   go_enter Tryz.func136,Tryz.ntmps136;go_wp2_with fail;refine HL.out.mono ?_
   rintro e w1⟨rfl,o1,hs1,hst⟩
   go_wp2_with fail;go_ret;exact⟨rfl,o1,hs1.alloc _,hst.alloc _⟩
 ·rw[if_neg he]
  have hb:(e'==0)=false:=by rw[Qh];exact he
  go_enter Tryz.func136,Tryz.ntmps136;go_wp2_with fail;refine HL.out.mono ?_
  rintro e w1⟨rfl,o1,hs1,hst⟩
  go_wp2_with fail;go_ret;exact⟨rfl,o1,hs1.alloc _,hst.alloc _⟩
theorem Rw (h:Ap w o y S) (hk:S.ok) (hi:i<S.Aw.length) (p:Nat) :
  Ab Tryz.prog 119 #[ptr y.sb,ptr (y.xb i),I Z p] w fun e w'=>e=O (.bool (S.A2 i p).2)/\Bl y (S.A2 i p).1 o w w':=by
 have HC:=Qa (Sg h hk p);obtain⟨hs,hv⟩:=hk.sec p;have HO:=(fun w=>lr (S.H.sec p) hv hs w)
 obtain⟨vq,vl,vm,hb,_⟩:=h.AU;unfold qk at hb;have c:=hb.cell;obtain⟨vt,jx,_⟩:=(h.Aw i _ (Al.AV hi)).AU;unfold zg at jx;have HL:=(fun w' (hw:Ae w.heap.size w w')=>Uv (h.below hw) hk hi p (S.H.sec p/2))
 have HW:=(fun w' o' (hw:Ap w' o' y (S.AZ i p (S.H.sec p/2)).1)=>Hf hw (Al.C8 hk hi p _ (by omega)) (x:=(S.AZ i p (S.H.sec p/2)).1.t i) (Al.AV (by rw[xg];exact hi)) p)
 have HI:=Qa h;unfold Al.A2;by_cases hod:S.H.sec p%2=1
 ·rw[if_pos hod]
  rw[if_pos hod,if_pos hod,decide_eq_true hod]at HO;replace HO:=Qa HO;generalize S.H.sec p=v at *;clear h hk hs hv hod HL HW hi;go_enter Tryz.func119,Tryz.ntmps119;go_wp2_with fail;refine HC.out.mono ?_
  rintro e w1⟨er,rfl,hb1⟩
  go_wp2_with fail;refine (HO.out _).mono ?_
  rintro e w2⟨rfl,rfl⟩
  go_wp2_with fail;go_ret;exact⟨rfl,HI.out.Ee hb1⟩
 ·rw[if_neg hod]
  rw[if_neg hod,if_neg hod,decide_eq_false hod]at HO;replace HO:=Qa HO;have e3:({ (S.AZ i p (S.H.sec p/2)).1 with H:=((S.AZ i p (S.H.sec p/2)).1.H.AB p (2*i+1)).1 }:Al)=(S.AZ i p (S.H.sec p/2)).1.DW i p:=rfl;simp only[e3]at HW;generalize hq:(S.AZ i p (S.H.sec p/2))=q at *;obtain⟨S2,ok⟩:=q;have hS2:ok=false->S2=S:=fun e=>by
   unfold Al.AZ at hq;split at hq
   ·injection hq with _ hq;rw[e]at hq;cases hq
   ·injection hq with hq _;exact hq.symm
  simp only at HL HW ⊢;replace HL:=Qa HL;replace HW:=Qa HW;generalize S2.DW i p=S3 at *;generalize S.H.sec p/2=v2 at *;generalize S.H.sec p=v at *;replace hS2:=Qa hS2;clear h hk hs hv hod hi e3 hq
  cases ok
  ·rw[if_neg (by simp)]
   go_enter Tryz.func119,Tryz.ntmps119;go_wp2_with fail;refine HC.out.mono ?_
   rintro e w1⟨er,rfl,hb1⟩
   have cx:=(jx.below hb1 jx.lt).cell;go_wp2_with fail;refine (HO.out _).mono ?_
   rintro e w2⟨rfl,rfl⟩
   go_wp2_with fail;refine (HL.out _ hb1).mono ?_
   rintro e w2⟨rfl,o2,hS2',hs2⟩
   rw[hS2.out (by simp)]at hS2'
   go_wp2_with fail;go_ret;exact⟨rfl,o2,hS2',(Stp.of_below hb1).trans hs2⟩
  ·rw[if_pos rfl]
   go_enter Tryz.func119,Tryz.ntmps119;go_wp2_with fail;refine HC.out.mono ?_
   rintro e w1⟨er,rfl,hb1⟩
   have cx:=(jx.below hb1 jx.lt).cell;go_wp2_with fail;refine (HO.out _).mono ?_
   rintro e w2⟨rfl,rfl⟩
   go_wp2_with fail;refine (HL.out _ hb1).mono ?_
   rintro e w2⟨rfl,o2,hS2',hs2⟩
   go_wp2_with fail;refine (HW.out _ _ hS2').mono ?_
   rintro e w3⟨rfl,hS3⟩
   go_wp2_with fail;go_ret;exact⟨rfl,Bl.from ((Stp.of_below hb1).trans hs2) hS3⟩
def Al.Bh (S:Al)(i:Nat)(s:B3):Al×Nat×Int:=
 if (S.H.AM s).2.2≠0 then (S,0,100) else
  if (({ S with H:=(S.H.AM s).1 }:Al).AZ i (S.H.AM s).2.1 0).2=true then ((({ S with H:=(S.H.AM s).1 }:Al).AZ i (S.H.AM s).2.1 0).1.DW i (S.H.AM s).2.1,(S.H.AM s).2.1,0)
  else ({ S with H:=((S.H.AM s).1.AS (S.H.AM s).2.1 true).1 },0,130)
theorem Al.Ex {S:Al}(hk:S.ok)(hi:i<S.Aw.length){s:B3}(hs:s.ok):(S.Bh i s).1.ok:=by
 unfold Al.Bh;have h1:=Al.D6 hk hs;split
 ·exact hk
 ·split
  ·exact Al.Fa (Al.C8 h1 hi _ 0 (by omega)) (by rw[xg];exact hi) _
  ·exact Al.Cl h1 _ _
theorem TJ (S:Al)(i:Nat)(s:B3):(S.Bh i s).1.Aw.length=S.Aw.length:=by
 unfold Al.Bh;split
 ·rfl
 ·split
  ·exact xg _ _ _ _
  ·rfl
theorem DC (h:Ap w o y S) (hk:S.ok) (hi:i<S.Aw.length) (s:B3) (hs:s.ok) :
  Ab Tryz.prog 107 #[ptr y.sb,ptr (y.xb i),ka s] w fun e w'=>e=O (Aj #[I Z ((S.Bh i s).2.1:Nat),I Z (S.Bh i s).2.2])/\Bl y (S.Bh i s).1 o w w':=by
 have hB:Ae w.heap.size w (w.alloc (.cells #[I Z s.p,I Z s.d,.bool s.Az,.bool s.final] 93)).drew:=qe (qa (qc w) _);have HA:=Kv (h.below hB) hk s hs;have h1:=Al.D6 hk hs;have HL:=(fun w' o' (hw:Ap w' o' y { S with H:=(S.H.AM s).1 })=>Uv hw h1 hi (S.H.AM s).2.1 0)
 have HW:=(fun w' o' (hw:Ap w' o' y (({ S with H:=(S.H.AM s).1 }:Al).AZ i (S.H.AM s).2.1 0).1)=>Hf hw (Al.C8 h1 hi _ 0 (by omega)) (x:=(({ S with H:=(S.H.AM s).1 }:Al).AZ i (S.H.AM s).2.1 0).1.t i) (Al.AV (by rw[xg];exact hi)) (S.H.AM s).2.1)
 have HF:=(fun w' o' (hw:Ap w' o' y { S with H:=(S.H.AM s).1 })=>m7 hw h1 (S.H.AM s).2.1 true)
 have HX:=(fun w' o' (hw:Ap w' o' y { S with H:=(S.H.AM s).1 })=>(hw.Aw i _ (Al.AV hi)).cell)
 have hno:(S.H.AM s).2.2≠0->(S.H.AM s).1=S.H/\(S.H.AM s).2=(0,100):=by
  unfold Hp.AM;split
  ·intro h;exact absurd rfl h
  ·intro _;exact⟨rfl,rfl⟩
 unfold Al.Bh;generalize S.H.AM s=r at *;obtain⟨H',at',er⟩:=r;simp only at HA HL HW HF HX hno ⊢;have hq0:(({ S with H:=H' }:Al).AZ i at' 0).2=false->(({ S with H:=H' }:Al).AZ i at' 0).1={ S with H:=H' }:=fun e=>by
  unfold Al.AZ at e ⊢;split at e
  ·cases e
  ·rename_i hm;rw[if_neg hm]
 have e3:({ (({ S with H:=H' }:Al).AZ i at' 0).1 with H:=((({ S with H:=H' }:Al).AZ i at' 0).1.H.AB at' (2*i+1)).1 }:Al)=(({ S with H:=H' }:Al).AZ i at' 0).1.DW i at':=rfl;simp only[e3]at HW;generalize hS1:({ S with H:=H' }:Al)=S1 at *;generalize (S1.AZ i at' 0)=q at *;obtain⟨S2,ok⟩:=q;simp only at HL HW hq0 ⊢;generalize S2.DW i at'=S3 at *;generalize hS4:({ S1 with H:=(S1.H.AS at' true).1 }:Al)=S4 at *;have hS4':({ S with H:=(H'.AS at' true).1 }:Al)=S4:=by rw[<-hS4,<-hS1]
 rw[hS4'];have HA':=Qa HA;have HS4:=Qa hS4';obtain⟨vq,vl,vm,jb,_⟩:=h.AU;have jb:=jb;unfold qk at jb;have c:=jb.cell;have sb:=jb.lt;have HLh:=Qa HL;have HWh:=Qa HW;have HFh:=Qa HF;have HXh:=Qa HX;have hno':=Qa hno;have hq':=Qa hq0;have hS1':=Qa hS1;have hbase:=Qa (Stp.of_below (T:=qh y) (o:=o) hB);have HI:=Qa (h.below hB);clear HA HL HW HF HX hno hq0 hS1 hS4 hS4' e3 h hk h1 hB;by_cases her:er=0
 ·subst her
  rw[if_neg (by simp)]
  clear hno'
  cases ok
  ·rw[if_neg (by simp)]
   go_enter Tryz.func107,Tryz.ntmps107;go_upto_region 1 with fail;obtain⟨W,hW⟩:∃ W:Aa,W=w.alloc (.cells #[I Z s.p,I Z s.d,.bool s.Az,.bool s.final] 93):=⟨_,rfl⟩;have jW:=jb.alloc (.cells #[I Z s.p,I Z s.d,.bool s.Az,.bool s.final] 93);have jB:=Am.new w #[I Z s.p,I Z s.d,.bool s.Az,.bool s.final] 93;rw[<-hW]at HA' hbase jW jB ⊢;clear hW c sb HI;have c:=jW.cell;have cB:=jB.cell;go_region_with (first|(go_at_call 167;refine HA'.out.mono ?_;rintro e w1⟨rfl,o1,hS1,hs1⟩)|fail)
   all_goals
    obtain⟨vt,cx⟩:=HXh.out _ _ hS1;clear c cB;go_wp2_with fail;refine (HLh.out _ _ hS1).mono ?_
    rintro e w2⟨rfl,o2,hS2,hs2⟩
    rw[hq'.out (by simp)]at hS2
    clear cx;obtain⟨vq,vl,vm,jb2,_⟩:=hS2.AU;unfold qk at jb2;have c2:=jb2.cell;go_wp2_with fail;refine (HFh.out _ _ hS2).mono ?_
    rintro e w3⟨rfl,hS3⟩
    rw[HS4.out]at hS3;go_wp2_with fail;go_ret2;exact⟨rfl,Bl.from (hbase.out.trans (hs1.trans hs2)) hS3⟩
  ·rw[if_pos rfl]
   go_enter Tryz.func107,Tryz.ntmps107;go_upto_region 1 with fail;obtain⟨W,hW⟩:∃ W:Aa,W=w.alloc (.cells #[I Z s.p,I Z s.d,.bool s.Az,.bool s.final] 93):=⟨_,rfl⟩;have jW:=jb.alloc (.cells #[I Z s.p,I Z s.d,.bool s.Az,.bool s.final] 93);have jB:=Am.new w #[I Z s.p,I Z s.d,.bool s.Az,.bool s.final] 93;rw[<-hW]at HA' hbase jW jB ⊢;clear hW c sb HI;have c:=jW.cell;have cB:=jB.cell;go_region_with (first|(go_at_call 167;refine HA'.out.mono ?_;rintro e w1⟨rfl,o1,hS1,hs1⟩)|fail)
   all_goals
    obtain⟨vt,cx⟩:=HXh.out _ _ hS1;clear c cB;go_wp2_with fail;refine (HLh.out _ _ hS1).mono ?_
    rintro e w2⟨rfl,o2,hS2,hs2⟩
    clear cx;go_wp2_with fail;refine (HWh.out _ _ hS2).mono ?_
    rintro e w3⟨rfl,hS3⟩
    go_wp2_with fail;go_ret2;exact⟨rfl,Bl.from (hbase.out.trans (hs1.trans hs2)) hS3⟩
 ·rw[if_pos her]
  obtain⟨rfl,e2⟩:=hno'.out her;injection e2 with e2 e3;subst e2 e3;have hSS:S1=S:=by rw[<-hS1'.out]
  go_enter Tryz.func107,Tryz.ntmps107;go_upto_region 1 with fail;obtain⟨W,hW⟩:∃ W:Aa,W=w.alloc (.cells #[I Z s.p,I Z s.d,.bool s.Az,.bool s.final] 93):=⟨_,rfl⟩;have jW:=jb.alloc (.cells #[I Z s.p,I Z s.d,.bool s.Az,.bool s.final] 93);have jB:=Am.new w #[I Z s.p,I Z s.d,.bool s.Az,.bool s.final] 93;rw[<-hW]at HA' hbase jW jB ⊢;clear hW c sb HI;have c:=jW.cell;have cB:=jB.cell;replace hSS:=Qa hSS;go_region_with (first|(go_at_call 167;refine HA'.out.mono ?_;rintro e w1⟨rfl,o1,hS1,hs1⟩)|fail)
  all_goals
   clear c cB;go_wp2_with fail;go_ret2;refine⟨rfl,o1,?_,hbase.out.trans hs1⟩;rw[<-hSS.out];exact hS1
end
end
section
open Hp
def Hp.B1 (H:Hp)(u:Un):Hp:=
 if u.kind=1 then (H.A9 u.pos u.i u.old.toNat).1 else if u.kind=2 then (H.Bm u.pos u.i u.old).1 else if u.kind=3 then (H.AS u.pos (decide (u.old≠0))).1 else H
def Hp.BA (H:Hp)(us:List Un):Hp:=us.foldr (fun u H=>H.B1 u) H
def Hp.Dq (H:Hp)(z:Nat×Nat):Hp:=if z.2=0 then ((H.AB z.1 (2*z.2)).1.AS z.1 true).1 else (H.AB z.1 (2*z.2)).1
def Hp.Cm (H:Hp)(zs:List (Nat×Nat)):Hp:=zs.foldl Hp.Dq H
def Al.h (S:Al)(H:Hp):Al:={ S with H:=H }
def Al.Bs (S:Al)(i:Nat):Al:=if S.Av=(i:Int) then { S with queue:=(S.t i).AX++S.queue,Av:=-1 } else S
def Al.abort (S:Al)(i:Nat):Al:=((S.h ((S.H.BA (S.t i).log.Au).Cm (S.t i).log.holds)).Bs i).tx i (S.t i).ended
theorem Al.G9 {S:Al}(hk:S.ok){u:Un}(h1:-9223372036854775808<=u.old/\u.old<=9223372036854775807):(S.h (S.H.B1 u)).ok:=by
 unfold Hp.B1;split
 ·exact Al.CG hk _ _ _
 ·split
  ·exact Al.DK hk _ _ h1
  ·split
   ·exact Al.Cl hk _ _
   ·exact hk
theorem Al.DD {S:Al}(hk:S.ok):∀ (us:List Un),(∀ u ∈ us,-9223372036854775808<=u.old/\u.old<=9223372036854775807)->(S.h (S.H.BA us)).ok
 | [],_=>hk
 | u::us,h=>Al.G9 (Al.DD hk us fun z hz=>h z (.tail _ hz)) (h u (.head _))
theorem Al.Fo {S:Al}(hk:S.ok)(p:Nat){v:Nat}(hv:v<=1099511627776):(S.h (S.H.AB p (2*v)).1).ok:=Al.CM hk _ (by omega) fun h=>by omega
theorem Al.Me {S:Al}(hk:S.ok){z:Nat×Nat}(hz:z.2<=1099511627776):(S.h (S.H.Dq z)).ok:=by
 have h1:(S.h (S.H.AB z.1 (2*z.2)).1).ok:=Al.CM hk _ (by omega) fun h=>by omega
 unfold Hp.Dq;split
 ·exact Al.Cl h1 _ _
 ·exact h1
theorem Al.EC:∀ (zs:List (Nat×Nat)){S:Al},S.ok->(∀ z ∈ zs,z.2<=1099511627776)->(S.h (S.H.Cm zs)).ok
 | [],_,hk,_=>hk
 | z::zs,S,hk,h=>Al.EC zs (S:=S.h (S.H.Dq z)) (Al.Me hk (h z (.head _))) fun x hx=>h x (.tail _ hx)
theorem V9 (H:Hp)(zs:List (Nat×Nat))(z:Nat×Nat):H.Cm (zs++[z])=(H.Cm zs).Dq z:=by unfold Hp.Cm;rw[List.foldl_append];rfl
theorem RV:∀ (l:List Tx)(i:Nat)(x:Tx),l[i]?=some x->x.AX.length<=kq l
 | [],i,x,h=>by simp at h
 | q::l,0,x,h=>by simp at h;subst h;simp[kq]
 | q::l,i+1,x,h=>by have:=RV l i x (by simpa using h);simp[kq];omega
theorem Al.DG {S:Al}(hk:S.ok){i:Nat}(hi:i<S.Aw.length){q:List (Nat×Nat)}{z:Int}{v:Nat}(hq:q.length<=S.queue.length+(S.t i).AX.length)(hz:-1<=z/\z<=8)(hv:v<=S.now):Al.ok (({ S with queue:=q,Av:=z,version:=v }:Al).tx i (S.t i).ended):=by
 have hx:=Al.AV hi;have hl:=ye S.Aw i (S.t i).ended _ hx;have ht:=yf S.Aw i (S.t i).ended _ hx;have hmem:∀ z ∈ S.Aw.set i (S.t i).ended,z ∈ S.Aw\/z=(S.t i).ended:=fun z hz=>List.mem_or_eq_of_mem_set hz
 have hl2:js (S.Aw.set i (S.t i).ended)<=js S.Aw:=by
  have:(if (S.t i).ended.live=true then 1 else 0)=0:=rfl
  rw[this]at hl;omega
 have e0:(S.t i).ended.AX=[]:=rfl;rw[e0]at ht;simp only[List.length_nil]at ht;refine⟨hk.H,hk.n2,by show S.now+js (S.Aw.set i (S.t i).ended)<=S.most;have:=hk.lv;omega,by simpa [Al.tx] using hk.t1,by simpa [Al.tx] using hk.t8,fun z hz=>?_,fun z hz=>?_,hv,hz,hk.sc,hk.so,by show q.length+kq (S.Aw.set i (S.t i).ended)<=S.next;have:=hk.qu;omega,hk.nx,hk.cm,fun z hz=>?_,hk.ph⟩
 ·rcases hmem z hz with h|rfl
  ·exact hk.lg z h
  ·exact Lg.FF (hk.Em hi)
 ·rcases hmem z hz with h|rfl
  ·exact hk.st z h
  ·exact hk.SO hi
 ·rcases hmem z hz with h|rfl
  ·exact hk.se z h
  ·exact hk.set hi
theorem Al.Dx {S:Al} (hk:S.ok) {i:Nat} (hi:i<S.Aw.length):(S.abort i).ok:=by
 have hL:=hk.Em hi;have h2:(S.h ((S.H.BA (S.t i).log.Au).Cm (S.t i).log.holds)).ok:=Al.EC _ (Al.DD hk _ hL.un) hL.hv;unfold Al.abort Al.Bs;split
 ·exact Al.DG (S:=S.h ((S.H.BA (S.t i).log.Au).Cm (S.t i).log.holds)) h2 (i:=i) hi (z:=-1) (v:=S.version) (by rw[Qd];show (S.t i).AX.length+S.queue.length<=S.queue.length+(S.t i).AX.length;omega) (by omega) hk.ve
 ·exact Al.DG (S:=S.h ((S.H.BA (S.t i).log.Au).Cm (S.t i).log.holds)) h2 (i:=i) hi (q:=S.queue) (z:=S.Av) (v:=S.version) (by show S.queue.length<=S.queue.length+_;omega) hk.ho hk.ve
theorem qmo (S:Al)(i:Nat):(S.abort i).Aw.length=S.Aw.length:=by
 unfold Al.abort Al.Bs;split<;>simp[Al.tx,Al.h]
def Hp.now (H:Hp)(p:Nat):Nat:=match Bj H.old p with|some (_,some q)=>q|_=>p
theorem Um (l:List (Nat×Ob×Option Nat))(p q r:Nat){ob:Ob}{g:Nat}(h:Bj l r=some (ob,some g))(hp:Bj l p=none\/(∃ z,Bj l p=some (z,none))):Bj (qr l p q) r=some (ob,some g):=by
 rw[ur];split
 ·rename_i e;subst e
  rcases hp with hp|⟨z,hp⟩
  ·rw[hp]at h;cases h
  ·rw[hp]at h;cases h
 ·exact h
theorem Wb {H:Hp}(p:Nat){r:Nat}{ob:Ob}{g:Nat}(h:Bj H.old r=some (ob,some g)):Bj (H.AA p).1.old r=some (ob,some g):=by
 unfold Hp.AA;split
 ·exact h
 ·exact h
 ·rename_i z hp
  exact Um _ _ _ _ h (.inr ⟨_,hp⟩)
theorem YN {H:Hp}(p:Nat){r:Nat}(h:Bj H.old r=none):Bj (H.AA p).1.old r=none:=by
 unfold Hp.AA;split
 ·exact h
 ·exact h
 ·rename_i z hp
  show Bj (qr H.old p H.top) r=none;rw[ur];split
  ·rename_i e;subst e;rw[h];rfl
  ·exact h
theorem SU {H:Hp}(p:Nat):(Bj (H.AA p).1.old p=none/\(H.AA p).2=p)\/∃ ob,Bj (H.AA p).1.old p=some (ob,some (H.AA p).2):=by
 unfold Hp.AA;split
 ·rename_i h;exact .inl ⟨h,rfl⟩
 ·rename_i ob q h;exact .inr ⟨ob,h⟩
 ·rename_i ob h
  refine .inr ⟨ob,?_⟩;show Bj (qr H.old p H.top) p=some (ob,some H.top);rw[ur,if_pos rfl,h];rfl
theorem mw:∀ (l:List Nat){H:Hp}{r:Nat}{ob:Ob}{g:Nat},Bj H.old r=some (ob,some g)->Bj (H.As l).1.old r=some (ob,some g)
 | [],_,_,_,_,h=>h
 | p::l,_,_,_,_,h=>mw l (Wb p h)
theorem fj:∀ (l:List Nat){H:Hp}{r:Nat},Bj H.old r=none->Bj (H.As l).1.old r=none
 | [],_,_,h=>h
 | p::l,_,_,h=>fj l (YN p h)
theorem Uh:∀ (l:List Nat)(H:Hp),(H.As l).2=l.map (H.As l).1.now
 | [],_=>rfl
 | p::l,H=>by
  show (H.AA p).2::((H.AA p).1.As l).2=((H.AA p).1.As l).1.now p::l.map ((H.AA p).1.As l).1.now;rw[Uh l (H.AA p).1];congr 1;unfold Hp.now;rcases SU (H:=H) p with⟨h1,h2⟩|⟨ob,h1⟩
  ·rw[fj l h1,h2]
  ·rw[mw l h1]
theorem Nq {H:Hp}(hk:H.ok){p:Nat}{b:Nat}(hb:131072<=b)(hp:p<=b):H.now p<=b:=by
 unfold Hp.now;split
 ·rename_i ob q h;have:=(hk.gone _ (jf h) q rfl).2;omega
 ·exact hp
def Un.places (u:Un):List Nat:=if u.kind=1 then [u.pos,u.old.toNat] else [u.pos]
def Lg.roots (L:Lg):List Nat:=L.reads++L.keeps++L.holds.map (·.1)++L.Au.flatMap Un.places
def Ew (g:Nat->Nat)(l:List (Nat×Nat)):List (Nat×Nat):=l.map fun z=>(g z.1,z.2)
def Un.at' (g:Nat->Nat)(u:Un):Un:=if u.kind=1 then { u with pos:=g u.pos,old:=g u.old.toNat } else { u with pos:=g u.pos }
def Lg.at' (g:Nat->Nat)(L:Lg):Lg:={ L with reads:=L.reads.map g,keeps:=L.keeps.map g,holds:=Ew g L.holds,Au:=L.Au.map (Un.at' g) }
def Tx.at' (g:Nat->Nat)(x:Tx):Tx:={ x with log:=x.log.at' g,AX:=Ew g x.AX }
def Tx.places (x:Tx):List Nat:=x.log.roots++x.AX.map (·.1)
def Al.places (S:Al)(roots:List Nat):List Nat:=roots++S.queue.map (·.1)++S.Aw.flatMap Tx.places
def Al.at' (S:Al)(g:Nat->Nat):Al:={ S with Aw:=S.Aw.map (Tx.at' g),queue:=Ew g S.queue }
def Al.begun (S:Al)(roots:List Nat):Al:={ S with H:=(S.H.flip.As (S.places roots)).1,ph:=1 }
def Al.may (S:Al)(roots:List Nat):Bool:=decide (S.ph=0)&&roots.all fun r=>decide (r=0)||(lk S.H.cur r).isSome
def Al.AG (S:Al)(roots:List Nat):Al×List Nat×Bool:=
 if S.may roots=true then ((S.begun roots).at' (S.begun roots).H.now,roots.map (S.begun roots).H.now,true) else (S,[],false)
theorem Lg.MN {L:Lg} (h:L.fit) {H:Hp} (hk:H.ok):(L.at' H.now).fit:=by
 refine⟨⟨h.ok.mr,h.ok.mu,by simpa [Lg.at'] using h.ok.r,by simpa [Lg.at'] using h.ok.k,by simpa [Lg.at',Ew] using h.ok.h,by simpa [Lg.at'] using h.ok.u⟩,fun z hz=>?_,fun u hu=>?_,fun u hu=>?_⟩
 ·obtain⟨y,hy,rfl⟩:=Qt.1 (show z ∈ L.holds.map _ from hz)
  exact h.hv y hy
 ·obtain⟨y,hy,rfl⟩:=Qt.1 (show u ∈ L.Au.map _ from hu)
  unfold Un.at';split
  ·have h1:=h.un y hy
   have h2:=Nq hk (p:=y.old.toNat) (b:=9223372036854775807) (by omega) (by omega)
   simp only;omega
  ·exact h.un y hy
 ·obtain⟨y,hy,rfl⟩:=Qt.1 (show u ∈ L.Au.map _ from hu)
  unfold Un.at';split
  ·intro _;simp only;omega
  ·intro h1;exact h.kd y hy h1
theorem Ug (g:Nat->Nat):∀ (l:List Tx),kq (l.map (Tx.at' g))=kq l
 | []=>rfl
 | x::l=>by simp[kq,Ug g l,Tx.at',Ew]
theorem Ti (g:Nat->Nat):∀ (l:List Tx),js (l.map (Tx.at' g))=js l
 | []=>rfl
 | x::l=>by rw[List.map_cons,jy,jy,Ti g l];rfl
theorem Al.Pv {S:Al}(hk:S.ok){H:Hp}(hH:H.ok):(S.at' H.now).ok:=by
 refine⟨hk.H,hk.n2,by show S.now+js (S.Aw.map _)<=S.most;rw[Ti];exact hk.lv,by simpa [Al.at'] using hk.t1,by simpa [Al.at'] using hk.t8,fun x hx=>?_,fun x hx=>?_,hk.ve,hk.ho,hk.sc,hk.so,?_,hk.nx,hk.cm,fun x hx=>?_,hk.ph⟩
 ·obtain⟨z,hz,rfl⟩:=Qt.1 (show x ∈ S.Aw.map _ from hx)
  exact Lg.MN (hk.lg z hz) hH
 ·obtain⟨z,hz,rfl⟩:=Qt.1 (show x ∈ S.Aw.map _ from hx)
  exact hk.st z hz
 ·show (Ew H.now S.queue).length+kq (S.Aw.map _)<=S.next
  rw[Ug];simpa [Ew] using hk.qu
 ·obtain⟨z,hz,rfl⟩:=Qt.1 (show x ∈ S.Aw.map _ from hx)
  exact hk.se z hz
theorem Cj.flip {H:Hp}(h:Cj H):Cj H.flip:=
 ⟨fun x hx=>(by cases hx),fun x hx=>by obtain⟨z,hz,rfl⟩:=Qt.1 (show x ∈ H.cur.map _ from hx);exact h.1 z hz⟩
theorem Al.D8 {S:Al}(hk:S.ok)(h0:S.ph=0)(roots:List Nat):(S.begun roots).ok:=by
 have hm:S.H.AF=false:=hk.ph.2.1 h0;have hf:=Hp.Eu hk.H hm;have hs:=wq (S.places roots) S.H.flip;have hse:=Cj.As (S.places roots) hk.EF.flip;refine⟨Hp.Cb _ hf,hk.n2,hk.lv,hk.t1,hk.t8,hk.lg,hk.st,hk.ve,hk.ho,hse.1,hse.2,hk.qu,?_,hk.cm,hk.se,⟨by show 1<=2;omega,?_⟩⟩
 ·show S.next+(S.H.flip.As (S.places roots)).1.final.length<=(S.H.flip.As (S.places roots)).1.Ax
  rw[hs.2.2.2.2.2.2.1,hs.2.2.2.2.1];exact hk.nx
 ·show 1=0↔(S.H.flip.As (S.places roots)).1.AF=false
  rw[hs.2.2.1];exact⟨fun h=>by omega,fun h=>by cases h⟩
theorem PU {S:Al}{roots:List Nat}(h:S.may roots=true):S.ph=0:=by unfold Al.may at h;simp only[Bool.and_eq_true,decide_eq_true_eq]at h;exact h.1
theorem U8 {S:Al}(hk:S.ok)(roots:List Nat):(S.AG roots).1.ok:=by
 unfold Al.AG;split
 ·rename_i h;exact Al.Pv (Al.D8 hk (PU h) roots) (Al.D8 hk (PU h) roots).H.ok
 ·exact hk
theorem qgu (S:Al)(roots:List Nat):(S.AG roots).1.Aw.length=S.Aw.length:=by
 unfold Al.AG;split
 ·simp[Al.at',Al.begun]
 ·rfl
def Al.B4 (S:Al):Al×List Nat×Bool:=
 if S.ph=0 then (S,[],false) else if S.H.A8.2=true then (S.h S.H.A8.1,[],false)
 else if S.ph=1 then ({ S with H:=S.H.A1.1,ph:=2 },S.H.A1.2,false)
 else ({ S with H:=S.H.drop.1,ph:=0,lost:=S.lost++S.H.drop.2.1 },[],true)
def Hp.Du (H:Hp)(p:Nat):Bool:=match lk H.cur p with|some ob=>ob.Cn|none=>false
def Al.AW (S:Al)(p:Nat):Al:=
 if S.H.Du p=true\/100<=S.queue.length then S else { S with queue:=S.queue++[(p,S.next)],came:=S.came++[(S.H.Da p).1],next:=S.next+1 }
def Al.A0 (S:Al)(l:List Nat):Al:=l.foldl Al.AW S
def Al.Bg (S:Al):Al×Bool:=(S.B4.1.A0 S.B4.2.1,S.B4.2.2)
theorem qhs (S:Al)(l:List Nat)(p:Nat):S.A0 (l++[p])=(S.A0 l).AW p:=by unfold Al.A0;rw[List.foldl_append];rfl
theorem Cj.A8 {H:Hp}(h:Cj H):Cj H.A8.1:=by
 unfold Hp.A8;split
 ·exact h
 ·split
  ·exact h
  ·rename_i ob hp
   split
   ·exact h
   ·have h2:=Cj.As ob.AL h
    exact⟨QP (P:=yi) h2.1 (h.1 _ (zo hp)),h2.2⟩
theorem Cj.drop1 {H:Hp}(h:Cj H)(p:Nat):Cj (H.drop1 p).1:=by
 unfold Hp.drop1;split
 ·exact h
 ·rename_i ob hp
  have ho:=h.1 _ (zo hp);split
  ·exact h
  ·split
   ·exact h
   ·exact⟨QP (P:=yi) h.1 ho,h.2⟩
   ·exact⟨QP (P:=yi) h.1 ho,h.2⟩
theorem Cj.AP:∀ (l:List Nat){H:Hp},Cj H->Cj (H.AP l).1
 | [],_,h=>h
 | p::l,_,h=>Cj.AP l (h.drop1 p)
theorem XN (H:Hp):H.A8.1.AF=H.AF/\H.A8.1.final=H.final/\H.A8.1.Ax=H.Ax/\H.A8.1.Az=H.Az:=by
 unfold Hp.A8;split
 ·exact⟨rfl,rfl,rfl,rfl⟩
 ·split
  ·exact⟨rfl,rfl,rfl,rfl⟩
  ·rename_i ob hp
   split
   ·exact⟨rfl,rfl,rfl,rfl⟩
   ·have h:=wq ob.AL H
    exact⟨h.2.2.1,h.2.2.2.2.2.2.1,h.2.2.2.2.1,h.2.2.2.2.2.1⟩
theorem XH (H:Hp)(p:Nat):(H.drop1 p).1.final=H.final/\(H.drop1 p).1.Ax=H.Ax:=by
 unfold Hp.drop1;split
 ·exact⟨rfl,rfl⟩
 ·split
  ·exact⟨rfl,rfl⟩
  ·split<;>exact⟨rfl,rfl⟩
theorem VK:∀ (l:List Nat)(H:Hp),(H.AP l).1.final=H.final/\(H.AP l).1.Ax=H.Ax
 | [],_=>⟨rfl,rfl⟩
 | p::l,H=>by
  have h1:=XH H p;have h2:=VK l (H.drop1 p).1;exact⟨h2.1.trans h1.1,h2.2.trans h1.2⟩
theorem dj {S:Al}(hk:S.ok):S.B4.1.ok/\S.B4.1.next+S.B4.1.H.final.length+S.B4.2.1.length<=S.B4.1.H.Ax:=by
 have hnx:=hk.nx;unfold Al.B4;split
 ·exact⟨hk,by simpa using hnx⟩
 ·rename_i hph
  have hmv:S.H.AF=true:=by
   cases hm:S.H.AF with
   | true=>rfl
   | false=>exact absurd (hk.ph.2.2 hm) hph
  split
  ·have h:=XN S.H
   refine⟨Al.KM hk (Hp.G3 hk.H) hk.EF.A8.1 hk.EF.A8.2 (by rw[h.2.1,h.2.2.1];exact hnx) h.1,?_⟩
   show S.next+S.H.A8.1.final.length+0<=S.H.A8.1.Ax;rw[h.2.1,h.2.2.1];omega
  ·split
   ·have e:S.H.A1=Hp.As { S.H with final:=S.H.stay S.H.final } (S.H.Cc S.H.final):=by unfold Hp.A1;rw[if_neg (by rw[hmv];simp)]
    have hs:=wq (S.H.Cc S.H.final) { S.H with final:=S.H.stay S.H.final };have hl:=kp (S.H.Cc S.H.final) { S.H with final:=S.H.stay S.H.final };have hst:=kr S.H S.H.final;have hse:Cj (Hp.As { S.H with final:=S.H.stay S.H.final } (S.H.Cc S.H.final)).1:=Cj.As _ ⟨hk.EF.1,hk.EF.2⟩;have hw:=Hp.FC hk.H;rw[e]at hw ⊢;have e1:=hs.2.2.2.2.2.2.1;have e2:=hs.2.2.2.2.1;have e3:=hs.2.2.1;refine⟨⟨hw,hk.n2,hk.lv,hk.t1,hk.t8,hk.lg,hk.st,hk.ve,hk.ho,hse.1,hse.2,hk.qu,?_,hk.cm,hk.se,⟨by show 2<=2;omega,?_⟩⟩,?_⟩
    ·simp only[e1,e2];omega
    ·show 2=0↔_
     exact⟨fun h=>by omega,fun h=>by
      have e4:(Hp.As { S.H with final:=S.H.stay S.H.final } (S.H.Cc S.H.final)).1.AF=false:=h;rw[e3]at e4;exact absurd (e4:S.H.AF=false) (by rw[hmv];simp)⟩
    ·simp only[e1,e2,hl];omega
   ·rename_i h1 h2
    have hsc:S.H.scan=S.H.top:=by
     refine Classical.byContradiction fun hne=>h1 ?_
     obtain⟨ob,hob,_⟩:=SC hk.H hmv hne;unfold Hp.A8;rw[if_neg (by rw[hmv];simp[hne]),hob]
     simp only;split<;>rfl
    have e:S.H.drop=((S.H.settled.AP S.H.settled.Az).1.rest,(S.H.settled.AP S.H.settled.Az).2,true):=by
     unfold Hp.drop;rw[if_neg (by rw[hmv];simp[hsc])]
    have hd:=VK S.H.settled.Az S.H.settled;have hw:=Hp.K8 hk.H;have hst:=kr S.H S.H.final;have hse:Cj (S.H.settled.AP S.H.settled.Az).1:=Cj.AP _ (H:=S.H.settled) ⟨hk.EF.1,hk.EF.2⟩;rw[e]at hw ⊢;have e1:(S.H.settled.AP S.H.settled.Az).1.rest.final=S.H.stay S.H.final:=hd.1;have e2:(S.H.settled.AP S.H.settled.Az).1.rest.Ax=S.H.Ax:=hd.2;refine⟨⟨hw,hk.n2,hk.lv,hk.t1,hk.t8,hk.lg,hk.st,hk.ve,hk.ho,hse.1,fun x hx=>(by cases hx),hk.qu,?_,hk.cm,hk.se,⟨by show 0<=2;omega,?_⟩⟩,?_⟩
    ·simp only[e1,e2];omega
    ·show 0=0↔_
     exact⟨fun _=>rfl,fun _=>rfl⟩
    ·simp only[e1,e2,List.length_nil];omega
theorem XE {S:Al}(hk:S.ok)(p:Nat){k:Nat}(h:S.next+S.H.final.length+(k+1)<=S.H.Ax):(S.AW p).ok/\(S.AW p).next+(S.AW p).H.final.length+k<=(S.AW p).H.Ax/\(S.AW p).H=S.H/\(S.AW p).Aw=S.Aw:=by
 unfold Al.AW;split
 ·exact⟨hk,by omega,rfl,rfl⟩
 ·refine⟨⟨hk.H,hk.n2,hk.lv,hk.t1,hk.t8,hk.lg,hk.st,hk.ve,hk.ho,hk.sc,hk.so,?_,?_,?_,fun x hx=>Qu (hk.se x hx),hk.ph⟩,?_,rfl,rfl⟩
  ·have:=hk.qu;simp only[Qd,List.length_singleton];omega
  ·simp only;omega
  ·have:=hk.cm;simp only[Qd,List.length_singleton];omega
  ·simp only;omega
theorem dy:∀ (l:List Nat){S:Al},S.ok->S.next+S.H.final.length+l.length<=S.H.Ax->(S.A0 l).ok/\(S.A0 l).Aw=S.Aw/\(S.A0 l).H=S.H
 | [],_,hk,_=>⟨hk,rfl,rfl⟩
 | p::l,S,hk,h=>by
  obtain⟨h1,h2,h3,h4⟩:=XE hk p (k:=l.length) (by simpa using h)
  obtain⟨h5,h6,h7⟩:=dy l h1 h2;exact⟨h5,h6.trans h4,h7.trans h3⟩
theorem ld {S:Al}(hk:S.ok):S.Bg.1.ok:=(dy _ (dj hk).1 (dj hk).2).1
end
section
open Go.RowKit Hp
def ki:List (Nat×Nat)->List Nat->List (Nat×Nat)
 | [],_=>[]
 | z::zs,l=>(l.headD 0,z.2)::ki zs l.tail
def we:List Un->List Nat->List Un
 | [],_=>[]
 | u::us,l=>if u.kind=1 then { u with pos:=l.headD 0,old:=((l.tail.headD 0:Nat):Int) }::we us l.tail.tail else { u with pos:=l.headD 0 }::we us l.tail
def Lg.put (L:Lg)(l:List Nat):Lg:=
 { L with reads:=l.take L.reads.length,keeps:=(l.drop L.reads.length).take L.keeps.length,holds:=ki L.holds (l.drop (L.reads.length+L.keeps.length)),Au:=we L.Au (l.drop (L.reads.length+L.keeps.length+L.holds.length)) }
theorem df:∀ (zs:List (Nat×Nat))(l:List Nat),(ki zs l).length=zs.length
 | [],_=>rfl
 | z::zs,l=>by simp[ki,df zs]
theorem Rf:∀ (us:List Un)(l:List Nat),(we us l).length=us.length
 | [],_=>rfl
 | u::us,l=>by unfold we;split<;>simp[Rf us]
theorem tm (g:Nat->Nat):∀ (zs:List (Nat×Nat))(l:List Nat),ki zs ((zs.map (·.1)).map g++l)=Ew g zs
 | [],_=>rfl
 | z::zs,l=>by
  show ((g z.1::((zs.map (·.1)).map g++l)).headD 0,z.2)::ki zs (g z.1::((zs.map (·.1)).map g++l)).tail=(g z.1,z.2)::Ew g zs;simp only[List.headD_cons,List.tail_cons,tm g zs l]
theorem RF (g:Nat->Nat):∀ (us:List Un),we us ((us.flatMap Un.places).map g)=us.map (Un.at' g)
 | []=>rfl
 | u::us=>by
  rw[List.flatMap_cons,Qw,List.map_cons];unfold we Un.places Un.at';split
  ·simp only[List.map_cons,List.map_nil,List.cons_append,List.nil_append,List.headD_cons,List.tail_cons]
   exact congrArg _ (RF g us)
  ·simp only[List.map_cons,List.map_nil,List.cons_append,List.nil_append,List.headD_cons,List.tail_cons]
   exact congrArg _ (RF g us)
theorem TL (L:Lg)(g:Nat->Nat):L.put (L.roots.map g)=L.at' g:=by
 unfold Lg.put Lg.at' Lg.roots;simp only[Qw];have e1:(L.reads.map g++L.keeps.map g++(L.holds.map (·.1)).map g++(L.Au.flatMap Un.places).map g).take L.reads.length=L.reads.map g:=by
  rw[List.append_assoc,List.append_assoc,List.take_left' (by simp)]
 have e2:(L.reads.map g++L.keeps.map g++(L.holds.map (·.1)).map g++(L.Au.flatMap Un.places).map g).drop L.reads.length=L.keeps.map g++((L.holds.map (·.1)).map g++(L.Au.flatMap Un.places).map g):=by
  rw[List.append_assoc,List.append_assoc,List.drop_left' (by simp)]
 have e3:(L.reads.map g++L.keeps.map g++(L.holds.map (·.1)).map g++(L.Au.flatMap Un.places).map g).drop (L.reads.length+L.keeps.length)=(L.holds.map (·.1)).map g++(L.Au.flatMap Un.places).map g:=by
  rw[List.append_assoc,List.drop_left' (by simp)]
 have e4:(L.reads.map g++L.keeps.map g++(L.holds.map (·.1)).map g++(L.Au.flatMap Un.places).map g).drop (L.reads.length+L.keeps.length+L.holds.length)=(L.Au.flatMap Un.places).map g:=by
  rw[List.drop_left' (by simp;omega)]
 rw[e1,e2,e3,e4,tm,RF,List.take_left' (by simp)]
theorem US {L:Lg}(h:L.fit):L.put L.roots=L:=by
 have h1:=TL L id;rw[List.map_id]at h1;rw[h1];unfold Lg.at';have e1:Ew id L.holds=L.holds:=by unfold Ew;simp
 have e2:L.Au.map (Un.at' id)=L.Au:=by
  refine (List.map_congr_left fun u hu=>?_).trans (List.map_id _)
  unfold Un.at';split
  ·rename_i hk
   have h0:=h.kd u hu hk;obtain⟨kd,ps,i,od⟩:=u;simp only at h0 hk ⊢;show Un.mk kd ps i ((od.toNat:Nat):Int)=Un.mk kd ps i od;rw[Int.toNat_of_nonneg h0]
  ·rfl
 rw[e1,e2,List.map_id,List.map_id]
def tq (g:Nat)(s:Nat)(j:Nat):Addr:=⟨g,j*s,none⟩
def kn (v:Ac):Nat:=match v with|Ah (some a) _ _=>a.block|_=>0
def ws (g:Nat):Nat->List Un->List Addr
 | _,[]=>[]
 | j,u::us=>if u.kind=1 then⟨g,j*4+1,none⟩::⟨g,j*4+3,none⟩::ws g (j+1) us else⟨g,j*4+1,none⟩::ws g (j+1) us
def ww (vr vk vh vu:Ac)(L:Lg):List Addr:=
 (List.range L.reads.length).map (tq (kn vr) 1)++(List.range L.keeps.length).map (tq (kn vk) 1)++(List.range L.holds.length).map (tq (kn vh) 2)++ws (kn vu) 0 L.Au
theorem Su (g:Nat):∀ (us:List Un)(j:Nat),(ws g j us).length=(us.flatMap Un.places).length
 | [],_=>rfl
 | u::us,j=>by
  rw[List.flatMap_cons,Qd];have ih:=Su g us (j+1);by_cases hk:u.kind=1
  ·have hp:u.places.length=2:=by unfold Un.places;rw[if_pos hk];rfl
   unfold ws;rw[if_pos hk];simp only[Qv];omega
  ·have hp:u.places.length=1:=by unfold Un.places;rw[if_neg hk];rfl
   unfold ws;rw[if_neg hk];simp only[Qv];omega
theorem kl (vr vk vh vu:Ac)(L:Lg):(ww vr vk vh vu L).length=L.roots.length:=by
 unfold ww Lg.roots;simp only[Qd,Qg,List.length_range,Su]
theorem TV:∀ (us:List Un) (l:List Nat),(us.flatMap Un.places).length<=l.length->(we us l).flatMap Un.places=l.take (us.flatMap Un.places).length
 | [],l,_=>by simp[we]
 | u::us,l,h=>by
  rw[List.flatMap_cons,Qd]at h;rw[List.flatMap_cons (f:=Un.places) (x:=u),Qd];unfold we;by_cases hk:u.kind=1
  ·have hp:u.places.length=2:=by unfold Un.places;rw[if_pos hk];rfl
   rw[hp]at h ⊢;rw[if_pos hk];match l,h with
   | a::b::l,h =>
    rw[List.flatMap_cons,List.tail_cons,List.tail_cons,TV us l (by simp only[Qv]at h;omega)]
    show (if u.kind=1 then [a,((b:Int)).toNat] else [a])++_=_
    rw[if_pos hk,Int.toNat_natCast,show 2+(us.flatMap Un.places).length=(us.flatMap Un.places).length+1+1 from by omega]
    simp
   | [a],h=>simp only[Qv,List.length_nil]at h;omega
   | [],h=>simp at h
  ·have hp:u.places.length=1:=by unfold Un.places;rw[if_neg hk];rfl
   rw[hp]at h ⊢;rw[if_neg hk];match l,h with
   | a::l,h =>
    rw[List.flatMap_cons,List.tail_cons,TV us l (by simp only[Qv]at h;omega)]
    show (if u.kind=1 then [a,u.old.toNat] else [a])++_=_
    rw[if_neg hk,show 1+(us.flatMap Un.places).length=(us.flatMap Un.places).length+1 from by omega]
    simp
   | [],h=>simp only[List.length_nil]at h;omega
theorem SK:∀ (zs:List (Nat×Nat))(l:List Nat)(i x:Nat),i<zs.length->zs.length<=l.length ->
  qg (ki zs (l.set i x))=(qg (ki zs l)).set (i*2) (nv x)/\(qg (ki zs l))[i*2]?=(l[i]?).map nv
 | [],_,_,_,h,_=>by simp at h
 | z::zs,[],_,_,_,h=>by simp at h
 | z::zs,a::l,0,x,_,_=>by simp[ki,qg]
 | z::zs,a::l,i+1,x,h,hl=>by
  obtain⟨h1,h2⟩:=SK zs l i x (by simpa using h) (by simpa using hl)
  have e:(i+1)*2=i*2+1+1:=by omega
  simp only[List.set_cons_succ,ki,List.headD_cons,List.tail_cons,qg,e,h1,List.getElem?_cons_succ,h2,and_self]
theorem Vn:∀ (zs:List (Nat×Nat))(l:List Nat)(i x:Nat),zs.length<=i->ki zs (l.set i x)=ki zs l
 | [],_,_,_,_=>rfl
 | z::zs,l,i,x,h=>by
  obtain⟨j,rfl⟩:∃ j,i=j+1:=⟨i-1,by simp only[Qv]at h;omega⟩
  cases l with
  | nil=>rfl
  | cons a l=>simp only[List.set_cons_succ,ki,List.headD_cons,List.tail_cons];rw[Vn zs l j x (by simp only[Qv]at h;omega)]
theorem Q2 (g:Nat):∀ (us:List Un)(j:Nat)(l:List Nat)(i x:Nat)(a:Addr),(ws g j us)[i]?=some a->(us.flatMap Un.places).length<=l.length ->
  ∃ c,a=⟨g,j*4+c,none⟩/\qz (we us (l.set i x))=(qz (we us l)).set c (nv x)/\(qz (we us l))[c]?=(l[i]?).map nv
 | [],_,_,_,_,_,h,_=>by simp[ws]at h
 | u::us,j,l,i,x,a,h,hl=>by
  rw[List.flatMap_cons,Qd]at hl;by_cases hk:u.kind=1
  ·have hp:u.places.length=2:=by unfold Un.places;rw[if_pos hk];rfl
   rw[hp]at hl;unfold ws at h;rw[if_pos hk]at h;match l,hl with
   | [],hl=>simp at hl
   | [q],hl=>simp only[Qv,List.length_nil]at hl;omega
   | q0::q1::l,hl =>
    match i,h with
    | 0,h =>
     simp at h;subst h;refine⟨1,rfl,?_,?_⟩<;>(unfold we;rw[if_pos hk];first|(rw[if_pos hk];simp[qz])|simp[qz])
    | 1,h =>
     simp at h;subst h;refine⟨3,rfl,?_,?_⟩<;>(unfold we;rw[if_pos hk];first|(rw[if_pos hk];simp[qz,nv])|simp[qz,nv])
    | i+2,h =>
     simp only[List.getElem?_cons_succ]at h;obtain⟨c,h1,h2,h3⟩:=Q2 g us (j+1) l i x a h (by simp only[Qv]at hl;omega)
     refine⟨c+4,by rw[h1];congr 1;omega,?_,?_⟩
     ·simp only[List.set_cons_succ]
      unfold we;rw[if_pos hk,if_pos hk];simp only[List.headD_cons,List.tail_cons,qz,List.set_cons_succ,h2]
     ·unfold we
      rw[if_pos hk];simp only[List.headD_cons,List.tail_cons,qz,List.getElem?_cons_succ,h3]
  ·have hp:u.places.length=1:=by unfold Un.places;rw[if_neg hk];rfl
   rw[hp]at hl;unfold ws at h;rw[if_neg hk]at h;match l,hl with
   | [],hl=>simp only[List.length_nil]at hl;omega
   | q0::l,hl =>
    match i,h with
    | 0,h =>
     simp at h;subst h;refine⟨1,rfl,?_,?_⟩<;>(unfold we;rw[if_neg hk];first|(rw[if_neg hk];simp[qz])|simp[qz])
    | i+1,h =>
     simp only[List.getElem?_cons_succ]at h;obtain⟨c,h1,h2,h3⟩:=Q2 g us (j+1) l i x a h (by simp only[Qv]at hl;omega)
     refine⟨c+4,by rw[h1];congr 1;omega,?_,?_⟩
     ·simp only[List.set_cons_succ]
      unfold we;rw[if_neg hk,if_neg hk];simp only[List.headD_cons,List.tail_cons,qz,List.set_cons_succ,h2]
     ·unfold we
      rw[if_neg hk];simp only[List.headD_cons,List.tail_cons,qz,List.getElem?_cons_succ,h3]
theorem JS {g j:Nat}{us:List Un}{i:Nat}{a:Addr}(h:(ws g j us)[i]?=some a):i<(us.flatMap Un.places).length:=by
 rw[<-Su g us j];exact (Qc.1 h).1
section
variable {w : Aa} {o : Own} {id k b : Nat} {L : Lg} {vr vk vh vu : Ac}
theorem p9 {w:Aa}{o:Own}{t:Tag}{e:TypeId}{size:Nat}{v:Ac}{n:Nat}{xs:List Ac}(h:Row w o t e size v n xs)(hn:0<n) :
  ∃ cap,v=Ah (some ⟨kn v,0,none⟩) n cap/\o (kn v)=t/\kn v<w.heap.size:=by
 rcases h.own.2 with ⟨rfl,h2⟩|⟨g,cap,cur,rfl,_,hg,hn,hc,_⟩
 ·omega
 ·exact⟨cap,rfl,h.tag g rfl,(Qf.1 hg).1⟩
theorem TY (q:List Nat)(n m x:Nat):(q.set m x).take n=(q.take n).set m x:=by
 rw[List.take_set]
theorem wm (q:List Nat)(n m x:Nat)(h:m<n):(q.set m x).drop n=q.drop n:=by
 rw[List.drop_set,if_pos h]
theorem wu (q:List Nat)(n m x:Nat)(h:n<=m):(q.set m x).drop n=(q.drop n).set (m-n) x:=by
 rw[List.drop_set,if_neg (by omega)]
theorem xr (q:List Nat)(n m x:Nat)(h:n<=m):(q.set m x).take n=q.take n:=by
 rw[List.take_set];exact List.set_eq_of_length_le (by simp;omega)
theorem H5 (vr vk vh vu:Ac)(L:Lg)(m:Nat)(a:Addr)(ha:(ww vr vk vh vu L)[m]?=some a) :
  (m<L.reads.length/\a=⟨kn vr,m,none⟩)\/(L.reads.length<=m/\m<L.reads.length+L.keeps.length/\a=⟨kn vk,m-L.reads.length,none⟩) \/
  (L.reads.length+L.keeps.length<=m/\m<L.reads.length+L.keeps.length+L.holds.length/\a=⟨kn vh,(m-(L.reads.length+L.keeps.length))*2,none⟩) \/
  (L.reads.length+L.keeps.length+L.holds.length<=m/\(ws (kn vu) 0 L.Au)[m-(L.reads.length+L.keeps.length+L.holds.length)]?=some a):=by
 unfold ww at ha;by_cases h1:m<L.reads.length
 ·left
  rw[List.append_assoc,List.append_assoc,Qm (by simpa using h1),Qj,List.getElem?_range h1]at ha
  refine⟨h1,?_⟩;simpa [tq] using ha.symm
 ·right
  by_cases h2:m<L.reads.length+L.keeps.length
  ·left
   rw[List.append_assoc,List.append_assoc,Ql (by simp;omega),Qm (by simp;omega),Qj]at ha
   simp only[Qg,List.length_range]at ha;rw[List.getElem?_range (by omega)]at ha
   refine⟨by omega,h2,?_⟩
   simpa [tq] using ha.symm
  ·right
   by_cases h3:m<L.reads.length+L.keeps.length+L.holds.length
   ·left
    rw[List.append_assoc,Ql (by simp;omega),Qm (by simp;omega),Qj]at ha
    simp only[Qd,Qg,List.length_range]at ha;rw[List.getElem?_range (by omega)]at ha
    refine⟨by omega,h3,?_⟩
    simpa [tq] using ha.symm
   ·right
    rw[Ql (by simp;omega)]at ha
    simp only[Qd,Qg,List.length_range]at ha;exact⟨by omega,ha⟩
theorem KR (vr vk vh vu:Ac)(L:Lg){j:Nat}(h:j<L.reads.length):(ww vr vk vh vu L)[j]?=some ⟨kn vr,j,none⟩:=by
 unfold ww;rw[List.append_assoc,List.append_assoc,Qm (by simpa using h),Qj,List.getElem?_range h]
 simp[tq]
theorem L6 (vr vk vh vu:Ac)(L:Lg){j:Nat}(h:j<L.keeps.length):(ww vr vk vh vu L)[L.reads.length+j]?=some ⟨kn vk,j,none⟩:=by
 unfold ww;rw[List.append_assoc,List.append_assoc,Ql (by simp),Qm (by simp;omega),Qj]
 simp only[Qg,List.length_range];rw[show L.reads.length+j-L.reads.length=j from by omega,List.getElem?_range h]
 simp[tq]
theorem KQ (vr vk vh vu:Ac)(L:Lg){j:Nat}(h:j<L.holds.length):(ww vr vk vh vu L)[L.reads.length+L.keeps.length+j]?=some ⟨kn vh,j*2,none⟩:=by
 unfold ww;rw[List.append_assoc,Ql (by simp<;>omega),Qm (by simp<;>omega),Qj]
 simp only[Qd,Qg,List.length_range];rw[show L.reads.length+L.keeps.length+j-(L.reads.length+L.keeps.length)=j from by omega,List.getElem?_range h]
 simp[tq]
theorem Lj (vr vk vh vu:Ac)(L:Lg)(j:Nat):(ww vr vk vh vu L)[L.reads.length+L.keeps.length+L.holds.length+j]?=(ws (kn vu) 0 L.Au)[j]?:=by
 unfold ww;rw[Ql (by simp<;>omega)]
 simp only[Qd,Qg,List.length_range];rw[show L.reads.length+L.keeps.length+L.holds.length+j-(L.reads.length+L.keeps.length+L.holds.length)=j from by omega]
def ke (us:List Un)(j:Nat):Nat:=((us.take j).flatMap Un.places).length
theorem Yq {us:List Un}{j:Nat}{u:Un}(h:us[j]?=some u):ke us (j+1)=ke us j+if u.kind=1 then 2 else 1:=by
 unfold ke;have hj:=(Qc.1 h);rw[List.take_succ_eq_append_getElem hj.1,hj.2,List.flatMap_append,Qd,List.flatMap_cons,List.flatMap_nil,List.append_nil];unfold Un.places;split<;>simp
theorem Vs (g:Nat):∀ (us:List Un)(b j:Nat)(u:Un),us[j]?=some u->(ws g b us)[ke us j]?=some ⟨g,(b+j)*4+1,none⟩/\(u.kind=1->(ws g b us)[ke us j+1]?=some ⟨g,(b+j)*4+3,none⟩)
 | [],_,_,_,h=>by simp at h
 | z::us,b,0,u,h=>by
  simp at h;subst h;have e:ke (z::us) 0=0:=rfl;rw[e];by_cases hk:z.kind=1
  ·unfold ws;rw[if_pos hk];exact⟨rfl,fun _=>rfl⟩
  ·unfold ws;rw[if_neg hk];exact⟨rfl,fun h=>absurd h hk⟩
 | z::us,b,j+1,u,h=>by
  obtain⟨h1,h2⟩:=Vs g us (b+1) j u (by simpa using h)
  have e:ke (z::us) (j+1)=z.places.length+ke us j:=by unfold ke;rw[List.take_succ_cons,List.flatMap_cons,Qd]
  rw[show b+(j+1)=b+1+j from by omega,e]
  by_cases hk:z.kind=1
  ·have hp:z.places.length=2:=by unfold Un.places;rw[if_pos hk];rfl
   unfold ws;rw[if_pos hk,hp,show 2+ke us j=ke us j+1+1 from by omega]
   exact⟨h1,h2⟩
  ·have hp:z.places.length=1:=by unfold Un.places;rw[if_neg hk];rfl
   unfold ws;rw[if_neg hk,hp,show 1+ke us j=ke us j+1 from by omega]
   exact⟨h1,h2⟩
theorem Row.ite {w:Aa}{o:Own}{t:Tag}{e:TypeId}{size n n':Nat}{v:Ac}{xs xs':List Ac}(h:Row w o t e size v n xs)(hn:n=n')(hx:xs=xs'):Row w o t e size v n' xs':=by subst hn hx;exact h
theorem addr_add (g j:Nat):(⟨g,0,none⟩:Addr).add j=⟨g,j,none⟩:=by unfold Addr.add;split<;>simp_all
def NJ (w:Aa)(o:Own)(id k b:Nat)(L:Lg)(vr vk vh vu:Ac)(q:List Nat)(m:Nat)(a:Addr):Prop:=
 w.cell? a=(q[m]?).map nv/\a.spot=none/\a.block<w.heap.size/\w.frozen? a=false/\(∃ j,1<=j/\j<=4/\o a.block=(id,k+j))/\∀ x:Nat,Bq (w.setCell a (nv x)) o id k b (L.put (q.set m x)) vr vk vh vu
theorem Bq.place (q:List Nat)(hq:q.length=L.roots.length)(h:Bq w o id k b (L.put q) vr vk vh vu){m:Nat}{a:Addr}(ha:(ww vr vk vh vu L)[m]?=some a):NJ w o id k b L vr vk vh vu q m a:=by
 have hl:L.roots.length=L.reads.length+L.keeps.length+L.holds.length+(L.Au.flatMap Un.places).length:=by unfold Lg.roots;simp only[Qd,Qg]
 have hmq:m<q.length:=by rw[hq,<-kl vr vk vh vu L];exact (Qc.1 ha).1
 have hstp:∀ (g c j:Nat)(u:Ac),o g=(id,k+j)->Stp (fun t=>t=(id,k+j)) o o w (w.setCell ⟨g,c,none⟩ u):=fun g c j u hg=>(Stp.refl _ o w).setCell (by show o g=_;exact hg) u
 have hblk:∀ (g c j:Nat)(u:Ac),1<=j->o g=(id,k+j)->Am (w.setCell ⟨g,c,none⟩ u) b #[I Z L.mr,I Z L.mu,vr,vk,vh,vu] 219:=fun g c j u hj hg =>
  h.AU.Ao (hstp g c j u hg) (by rw[h.ob];simp;omega)
 have e1:(L.put q).reads=q.take L.reads.length:=rfl;have e2:(L.put q).keeps=(q.drop L.reads.length).take L.keeps.length:=rfl;have e3:(L.put q).holds=ki L.holds (q.drop (L.reads.length+L.keeps.length)):=rfl;have e4:(L.put q).Au=we L.Au (q.drop (L.reads.length+L.keeps.length+L.holds.length)):=rfl;have l1:(L.put q).reads.length=L.reads.length:=by rw[e1,Qp];omega
 have l2:(L.put q).keeps.length=L.keeps.length:=by rw[e2,Qp,List.length_drop];omega
 have l3:(L.put q).holds.length=L.holds.length:=by rw[e3,df]
 have l4:(L.put q).Au.length=L.Au.length:=by rw[e4,Rf]
 have k1:∀ x,(L.put (q.set m x)).reads.length=L.reads.length:=fun x=>by show (List.take _ _).length=_;rw[Qp,Qq];omega
 have k2:∀ x,(L.put (q.set m x)).keeps.length=L.keeps.length:=fun x=>by show (List.take _ (List.drop _ _)).length=_;rw[Qp,List.length_drop,Qq];omega
 have k3:∀ x,(L.put (q.set m x)).holds.length=L.holds.length:=fun x=>df _ _
 have k4:∀ x,(L.put (q.set m x)).Au.length=L.Au.length:=fun x=>Rf _ _
 have hrr:=h.rr;have hrk:=h.rk;have hrh:=h.rh;have hru:=h.ru;rw[l1]at hrr;rw[l2]at hrk;rw[l3]at hrh;rw[l4]at hru;rcases H5 _ _ _ _ _ _ _ ha with ⟨hm,rfl⟩|⟨hm1,hm2,rfl⟩|⟨hm1,hm2,rfl⟩|⟨hm1,hu⟩
 ·obtain⟨cap,ev,ht,hlt⟩:=p9 hrr (by omega)
  rw[ev]at hrr;have hc:=hrr.cells m (nv (q[m]'hmq)) (by rw[e1,Qj,List.getElem?_take_of_lt hm,Qb hmq];rfl)
  refine⟨by rw[hc,Qb hmq];rfl,rfl,hlt,hrr.free m,⟨1,by omega,by omega,ht⟩,fun x=>?_⟩
  have hs:=hstp (kn vr) m 1 (nv x) ht;refine⟨hblk _ _ 1 _ (by omega) ht,?_,?_,?_,?_,h.ob⟩
  ·rw[ev]
   refine (hrr.Kz m (nv x)).ite (k1 x).symm ?_;show ((q.take L.reads.length).map nv).set m (nv x)=((q.set m x).take L.reads.length).map nv;rw[TY,List.map_set]
  ·refine (hrk.Ao hs (by simp)).ite (k2 x).symm ?_
   show ((q.drop L.reads.length).take L.keeps.length).map nv=(((q.set m x).drop L.reads.length).take L.keeps.length).map nv;rw[wm _ _ _ _ hm]
  ·refine (hrh.Ao hs (by simp)).ite (k3 x).symm ?_
   show qg (ki L.holds (q.drop _))=qg (ki L.holds ((q.set m x).drop _));rw[wm _ _ _ _ (by omega)]
  ·refine (hru.Ao hs (by simp)).ite (k4 x).symm ?_
   show qz (we L.Au (q.drop _))=qz (we L.Au ((q.set m x).drop _));rw[wm _ _ _ _ (by omega)]
 ·obtain⟨cap,ev,ht,hlt⟩:=p9 hrk (by omega)
  rw[ev]at hrk;have hc:=hrk.cells (m-L.reads.length) (nv (q[m]'hmq)) (by
   rw[e2,Qj,List.getElem?_take_of_lt (by omega),List.getElem?_drop,show L.reads.length+(m-L.reads.length)=m from by omega,Qb hmq];rfl)
  refine⟨by rw[hc,Qb hmq];rfl,rfl,hlt,hrk.free _,⟨2,by omega,by omega,ht⟩,fun x=>?_⟩
  have hs:=hstp (kn vk) (m-L.reads.length) 2 (nv x) ht;refine⟨hblk _ _ 2 _ (by omega) ht,?_,?_,?_,?_,h.ob⟩
  ·refine (hrr.Ao hs (by simp)).ite (k1 x).symm ?_
   show (q.take L.reads.length).map nv=((q.set m x).take L.reads.length).map nv;rw[xr _ _ _ _ hm1]
  ·rw[ev]
   refine (hrk.Kz (m-L.reads.length) (nv x)).ite (k2 x).symm ?_;show (((q.drop L.reads.length).take L.keeps.length).map nv).set _ (nv x)=(((q.set m x).drop L.reads.length).take L.keeps.length).map nv;rw[wu _ _ _ _ hm1,TY,List.map_set]
  ·refine (hrh.Ao hs (by simp)).ite (k3 x).symm ?_
   show qg (ki L.holds (q.drop _))=qg (ki L.holds ((q.set m x).drop _));rw[wm _ _ _ _ (by omega)]
  ·refine (hru.Ao hs (by simp)).ite (k4 x).symm ?_
   show qz (we L.Au (q.drop _))=qz (we L.Au ((q.set m x).drop _));rw[wm _ _ _ _ (by omega)]
 ·obtain⟨cap,ev,ht,hlt⟩:=p9 hrh (by omega)
  rw[ev]at hrh;have hph:=SK L.holds (q.drop (L.reads.length+L.keeps.length)) (m-(L.reads.length+L.keeps.length));have hcc:=(hph 0 (by omega) (by rw[List.length_drop];omega)).2
  rw[List.getElem?_drop,show L.reads.length+L.keeps.length+(m-(L.reads.length+L.keeps.length))=m from by omega,Qb hmq]at hcc
  have hc:=hrh.own.cells (g:=kn vh) rfl _ _ (by rw[e3];exact hcc)
  rw[addr_add]at hc;refine⟨by rw[hc,Qb hmq];rfl,rfl,hlt,hrh.free _,⟨3,by omega,by omega,ht⟩,fun x=>?_⟩
  have hs:=hstp (kn vh) ((m-(L.reads.length+L.keeps.length))*2) 3 (nv x) ht;refine⟨hblk _ _ 3 _ (by omega) ht,?_,?_,?_,?_,h.ob⟩
  ·refine (hrr.Ao hs (by simp)).ite (k1 x).symm ?_
   show (q.take L.reads.length).map nv=((q.set m x).take L.reads.length).map nv;rw[xr _ _ _ _ (by omega)]
  ·refine (hrk.Ao hs (by simp)).ite (k2 x).symm ?_
   show ((q.drop L.reads.length).take L.keeps.length).map nv=(((q.set m x).drop L.reads.length).take L.keeps.length).map nv;rw[wu _ _ _ _ (by omega),xr _ _ _ _ (by omega)]
  ·rw[ev]
   refine (hrh.CP _ (nv x)).ite (k3 x).symm ?_;show (qg (ki L.holds (q.drop _))).set _ (nv x)=qg (ki L.holds ((q.set m x).drop _));rw[wu _ _ _ _ hm1,(hph x (by omega) (by rw[List.length_drop];omega)).1]
  ·refine (hru.Ao hs (by simp)).ite (k4 x).symm ?_
   show qz (we L.Au (q.drop _))=qz (we L.Au ((q.set m x).drop _));rw[wm _ _ _ _ (by omega)]
 ·have hmu:=JS hu
  have hpu:=fun x=>Q2 (kn vu) L.Au 0 (q.drop (L.reads.length+L.keeps.length+L.holds.length)) _ x a hu (by rw[List.length_drop];omega)
  obtain⟨c0,ea0,_,hcc⟩:=hpu 0;have hup:0<L.Au.length:=by
   cases hL:L.Au with
   | nil=>rw[hL]at hu;simp[ws]at hu
   | cons u us=>simp
  obtain⟨cap,ev,ht,hlt⟩:=p9 hru hup;rw[ev]at hru;simp only[Nat.zero_mul,Nat.zero_add]at ea0;subst ea0;rw[List.getElem?_drop,show L.reads.length+L.keeps.length+L.holds.length+(m-(L.reads.length+L.keeps.length+L.holds.length))=m from by omega,Qb hmq]at hcc
  have hc:=hru.own.cells (g:=kn vu) rfl _ _ (by rw[e4];exact hcc)
  rw[addr_add]at hc;refine⟨by rw[hc,Qb hmq];rfl,rfl,hlt,hru.free _,⟨4,by omega,by omega,ht⟩,fun x=>?_⟩
  obtain⟨c,ea1,CY,_⟩:=hpu x;have hcx:c=c0:=by simp only[Nat.zero_mul,Nat.zero_add,Addr.mk.injEq,true_and,and_true]at ea1;exact ea1.symm
  subst hcx;have hs:=hstp (kn vu) c 4 (nv x) ht;refine⟨hblk _ _ 4 _ (by omega) ht,?_,?_,?_,?_,h.ob⟩
  ·refine (hrr.Ao hs (by simp)).ite (k1 x).symm ?_
   show (q.take L.reads.length).map nv=((q.set m x).take L.reads.length).map nv;rw[xr _ _ _ _ (by omega)]
  ·refine (hrk.Ao hs (by simp)).ite (k2 x).symm ?_
   show ((q.drop L.reads.length).take L.keeps.length).map nv=(((q.set m x).drop L.reads.length).take L.keeps.length).map nv;rw[wu _ _ _ _ (by omega),xr _ _ _ _ (by omega)]
  ·refine (hrh.Ao hs (by simp)).ite (k3 x).symm ?_
   show qg (ki L.holds (q.drop _))=qg (ki L.holds ((q.set m x).drop _));rw[wu _ _ _ _ (by omega),Vn _ _ _ _ (by omega)]
  ·rw[ev]
   refine (hru.CP c (nv x)).ite (k4 x).symm ?_;show (qz (we L.Au (q.drop _))).set c (nv x)=qz (we L.Au ((q.set m x).drop _));rw[wu _ _ _ _ hm1,CY]
end
end
section
open Hp
structure Bv where
 S:Al
 v:Int
 e:Int
def ry (e:Int):Bool:=e==141||e==130||e==100
def Bv.fin (r:Bv)(i:Nat):Bv:=if ry r.e=true then⟨r.S.abort i,0,r.e⟩ else if r.e=0 then r else⟨r.S,0,r.e⟩
def Al.AH (S:Al)(i:Nat)(r:Bv):Bv:=if (S.t i).live=true then r.fin i else⟨S,0,140⟩
def Al.Ct (S:Al)(i p j:Nat):Bv:=
 if (S.Ar i p).2≠0 then⟨(S.Ar i p).1,0,(S.Ar i p).2⟩ else⟨(S.Ar i p).1,((S.Ar i p).1.H.Cz p j).1,((S.Ar i p).1.H.Cz p j).2⟩
def Al.CX (S:Al)(i p j:Nat):Bv:=
 if (S.Ar i p).2≠0 then⟨(S.Ar i p).1,0,(S.Ar i p).2⟩ else⟨(S.Ar i p).1.h ((S.Ar i p).1.H.A5 p j).1,((S.Ar i p).1.H.A5 p j).2.1,((S.Ar i p).1.H.A5 p j).2.2⟩
def Al.Cd (S:Al)(i p:Nat)(u:Un)(set:Hp->Hp×Nat):Bv:=
 if (S.A2 i p).2=false then⟨(S.A2 i p).1,0,130⟩
 else if ((S.A2 i p).1.BC i u).2=false then⟨((S.A2 i p).1.BC i u).1,0,130⟩
 else⟨((S.A2 i p).1.BC i u).1.h (set ((S.A2 i p).1.BC i u).1.H).1,0,(set ((S.A2 i p).1.BC i u).1.H).2⟩
def Al.BE (S:Al)(i p j:Nat)(v:Int):Bv:=
 if (S.Ar i p).2≠0 then ⟨(S.Ar i p).1,0,(S.Ar i p).2⟩
 else if ((S.Ar i p).1.H.Cz p j).2≠0 then ⟨(S.Ar i p).1,0,((S.Ar i p).1.H.Cz p j).2⟩
 else (S.Ar i p).1.Cd i p ⟨2,p,j,((S.Ar i p).1.H.Cz p j).1⟩ fun H=>H.Bm p j v
def Al.C9 (S:Al)(i p j q:Nat):Bv:=
 if (S.Ar i p).2≠0 then ⟨(S.Ar i p).1,0,(S.Ar i p).2⟩
 else if ((S.Ar i p).1.H.A5 p j).2.2≠0 then ⟨(S.Ar i p).1.h ((S.Ar i p).1.H.A5 p j).1,0,((S.Ar i p).1.H.A5 p j).2.2⟩
 else ((S.Ar i p).1.h ((S.Ar i p).1.H.A5 p j).1).Cd i p ⟨1,p,j,((S.Ar i p).1.H.A5 p j).2.1⟩ fun H=>H.A9 p j q
def Al.Dk (S:Al)(i p j q:Nat):Bv:=if q≠0/\lk S.H.cur q=none then⟨S,0,70⟩ else S.C9 i p j q
def Al.Ch (S:Al)(i p:Nat):Bv:=
 if (S.AK i p).2.1≠0 then ⟨(S.AK i p).1,0,(S.AK i p).2.1⟩ else (S.AK i p).1.Cd i p ⟨3,p,0,0⟩ fun H=>H.AS p true
def Al.AM (S:Al)(i:Nat)(s:B3):Bv:=⟨(S.Bh i s).1,(S.Bh i s).2.1,(S.Bh i s).2.2⟩
def Dt:B3:=⟨1,0,true,false⟩
theorem QX:Dt.ok:=⟨by decide,by decide,fun _=>⟨rfl,rfl,rfl⟩⟩
def Al.BK (S:Al)(i q:Nat):Bv:=
 if q=0 then⟨S,0,143⟩ else if lk S.H.cur q=none then⟨S,0,70⟩ else
  if (S.Bh i Dt).2.2≠0 then⟨(S.Bh i Dt).1,0,(S.Bh i Dt).2.2⟩ else⟨(S.Bh i Dt).1.h ((S.Bh i Dt).1.H.A9 (S.Bh i Dt).2.1 0 q).1,(S.Bh i Dt).2.1,0⟩
def Al.CC (S:Al)(i q:Nat):Bv:=if q=0 then⟨S,0,0⟩ else if wv (S.t i).log.keeps q (S.t i).log.mr=true then⟨S.tx i ((S.t i).keep q),q,0⟩ else⟨S.tx i ((S.t i).keep q),0,130⟩
def Al.Ca (S:Al)(i p:Nat):Bv:=
 if (S.AK i p).2.1≠0 then⟨(S.AK i p).1,0,(S.AK i p).2.1⟩ else if (S.AK i p).2.2.Az=false then⟨(S.AK i p).1,0,144⟩ else
  if ((S.AK i p).1.H.A5 p 0).2.2≠0 then⟨(S.AK i p).1.h ((S.AK i p).1.H.A5 p 0).1,0,((S.AK i p).1.H.A5 p 0).2.2⟩
  else ((S.AK i p).1.h ((S.AK i p).1.H.A5 p 0).1).CC i ((S.AK i p).1.H.A5 p 0).2.1
def Tx.BP (x:Tx)(z:Nat×Nat):Tx:={ x with AX:=x.AX++[z] }
def Al.B9 (S:Al)(i:Nat):Bv:=
 if S.Av≠-1/\S.Av≠(i:Int)\/(S.t i).start<S.version then⟨S,0,141⟩ else match S.queue with
 | []=>⟨{ S with Av:=i },0,0⟩
 | z::l=>if (S.t i).seen<=z.2 then⟨{ S with Av:=i },0,0⟩ else⟨({ S with Av:=i,queue:=l }:Al).tx i ((S.t i).BP z),z.1,0⟩
def Hp.B7 (H:Hp)(zs:List (Nat×Nat))(v:Nat):Hp:=zs.foldl (fun H z=>(H.AB z.1 (2*v)).1) H
def Al.BW (S:Al)(i:Nat):Bool:=(S.t i).log.reads.any fun p=>vg i (S.t i).start (S.H.sec p)
def Al.BS (S:Al)(i:Nat):Al:=
 if S.Av=(i:Int) then { S with now:=S.now+1,H:=S.H.B7 (S.t i).log.holds (S.now+1),Av:=-1,version:=S.now+1 } else { S with now:=S.now+1,H:=S.H.B7 (S.t i).log.holds (S.now+1) }
def Al.AQ (S:Al)(i:Nat):Bv:=
 if (S.t i).log.holds=[]/\S.Av≠(i:Int) then⟨S.tx i (S.t i).ended,0,0⟩ else if S.BW i=true then⟨S,0,141⟩ else⟨(S.BS i).tx i (S.t i).ended,(S.now:Int)+1,0⟩
def Tx.begun (x:Tx)(n s:Nat):Tx:={ x with live:=true,start:=n,seen:=s }
def Al.AO (S:Al)(i:Nat):Al×Int:=
 if (S.t i).live=true then (S,140) else if S.now+(js S.Aw+1)<=S.most then (S.tx i ((S.t i).begun S.now S.next),0) else (S,120)
def Al.CZ (S:Al)(i:Nat):Al×Int:=if (S.t i).live=true then (S.abort i,0) else (S,140)
theorem Al.BV {S:Al}(hk:S.ok){i:Nat}(hi:i<S.Aw.length)(p:Nat):(S.Ar i p).1.ok:=Al.Dd hk hi p
theorem wg (S:Al)(i p:Nat):(S.Ar i p).1.Aw.length=S.Aw.length:=gz S i p
theorem Al.GG {r:Bv}(h:r.S.ok){i:Nat}(hi:i<r.S.Aw.length):(r.fin i).S.ok:=by
 unfold Bv.fin;split
 ·exact Al.Dx h hi
 ·split<;>exact h
theorem TA (r:Bv)(i:Nat):(r.fin i).S.Aw.length=r.S.Aw.length:=by
 unfold Bv.fin;split
 ·exact qmo _ _
 ·split<;>rfl
theorem Al.Hx {S:Al}(hk:S.ok){i:Nat}(hi:i<S.Aw.length){r:Bv}(h:r.S.ok)(hl:r.S.Aw.length=S.Aw.length):(S.AH i r).S.ok:=by
 unfold Al.AH;split
 ·exact Al.GG h (by omega)
 ·exact hk
theorem XV (S:Al)(i:Nat){r:Bv}(hl:r.S.Aw.length=S.Aw.length):(S.AH i r).S.Aw.length=S.Aw.length:=by
 unfold Al.AH;split
 ·rw[TA];exact hl
 ·rfl
def Good (n:Nat)(r:Bv):Prop:=r.S.ok/\r.S.Aw.length=n
theorem Good.Cv {S:Al}(hk:S.ok){i:Nat}(hi:i<S.Aw.length){r:Bv}(h:Good S.Aw.length r):Good S.Aw.length (S.AH i r):=⟨Al.Hx hk hi h.1 h.2,XV S i h.2⟩
theorem bq {S:Al}(hk:S.ok){i:Nat}(hi:i<S.Aw.length)(p j:Nat):Good S.Aw.length (S.Ct i p j):=by
 unfold Al.Ct;split<;>exact⟨Al.BV hk hi p,wg S i p⟩
theorem RU {S:Al}(hk:S.ok){i:Nat}(hi:i<S.Aw.length)(p j:Nat):Good S.Aw.length (S.CX i p j):=by
 unfold Al.CX;split
 ·exact⟨Al.BV hk hi p,wg S i p⟩
 ·exact⟨Al.CV (Al.BV hk hi p) p j,wg S i p⟩
theorem Rp {S:Al}(hk:S.ok){i:Nat}(hi:i<S.Aw.length)(p:Nat){u:Un}{set:Hp->Hp×Nat}(h1:-9223372036854775808<=u.old/\u.old<=9223372036854775807)(h2:u.kind=1->0<=u.old)
  (hs:∀ {T:Al},T.ok->(T.h (set T.H).1).ok):Good S.Aw.length (S.Cd i p u set):=by
 unfold Al.Cd;split
 ·exact⟨Al.Df hk hi p,uw S i p⟩
 ·have h3:=Al.Dv (Al.Df hk hi p) (by rw[uw];exact hi) u h1 h2
  have h4:=(Hh (S.A2 i p).1 i u).trans (uw S i p);split
  ·exact⟨h3,h4⟩
  ·exact⟨hs h3,h4⟩
theorem Al.ok.E7 {S:Al}(hk:S.ok)(p j:Nat):-9223372036854775808<=(S.H.Cz p j).1/\(S.H.Cz p j).1<=9223372036854775807:=by
 unfold Hp.Cz;split
 ·simp
 ·rename_i ob hp
  split
  ·simp
  ·rename_i n hn;exact (hk.H.EJ hp).num n (Qe hn)
theorem RE {H:Hp}(h:H.wf)(p j:Nat):(H.A5 p j).2.1<=131072:=by
 unfold Hp.A5;split
 ·simp
 ·rename_i ob hp
  split
  ·simp
  ·rename_i x hx
   have hxb:=(h.EJ hp).ptr x (Qe hx);split
   ·exact sq h.ok hxb
   ·exact hxb
theorem fm {S:Al}(hk:S.ok){i:Nat}(hi:i<S.Aw.length)(p j:Nat){v:Int}(hv:-9223372036854775808<=v/\v<=9223372036854775807):Good S.Aw.length (S.BE i p j v):=by
 have hf:=Al.BV hk hi p;have hl:=wg S i p;unfold Al.BE;split
 ·exact⟨hf,hl⟩
 ·split
  ·exact⟨hf,hl⟩
  ·rw[<-hl]
   exact Rp hf (by rw[hl];exact hi) p (hf.E7 p j) (fun h=>by simp at h) fun hT=>Al.DK hT p j hv
theorem XG {S:Al}(hk:S.ok){i:Nat}(hi:i<S.Aw.length)(p j q:Nat):Good S.Aw.length (S.C9 i p j q):=by
 have hf:=Al.BV hk hi p;have hl:=wg S i p;have hb:=RE hf.H p j;have hp:=Al.CV hf p j;unfold Al.C9;split
 ·exact⟨hf,hl⟩
 ·split
  ·exact⟨hp,hl⟩
  ·rw[<-hl]
   exact Rp (S:=(S.Ar i p).1.h ((S.Ar i p).1.H.A5 p j).1) hp (by show i<(S.Ar i p).1.Aw.length;rw[hl];exact hi) p (by simp only;omega) (fun _=>by simp only;omega) fun hT=>Al.CG hT p j q
theorem lz {S:Al}(hk:S.ok){i:Nat}(hi:i<S.Aw.length)(p j q:Nat):Good S.Aw.length (S.Dk i p j q):=by
 unfold Al.Dk;split
 ·exact⟨hk,rfl⟩
 ·exact XG hk hi p j q
theorem nc {S:Al}(hk:S.ok){i:Nat}(hi:i<S.Aw.length)(p:Nat):Good S.Aw.length (S.Ch i p):=by
 have hf:=Al.Dd hk hi p;have hl:=gz S i p;unfold Al.Ch;split
 ·exact⟨hf,hl⟩
 ·rw[<-hl]
  exact Rp hf (by rw[hl];exact hi) p (by simp) (fun h=>by simp at h) fun hT=>Al.Cl hT p true
theorem y8 {S:Al}(hk:S.ok){i:Nat}(hi:i<S.Aw.length){s:B3}(hs:s.ok):Good S.Aw.length (S.AM i s):=⟨Al.Ex hk hi hs,TJ S i s⟩
theorem nk {S:Al}(hk:S.ok){i:Nat}(hi:i<S.Aw.length)(q:Nat):Good S.Aw.length (S.BK i q):=by
 unfold Al.BK;have h1:=Al.Ex hk hi QX;have h2:=TJ S i Dt;split
 ·exact⟨hk,rfl⟩
 ·split
  ·exact⟨hk,rfl⟩
  ·split
   ·exact⟨h1,h2⟩
   ·exact⟨Al.CG h1 _ _ _,h2⟩
theorem VZ {S:Al}(hk:S.ok){i:Nat}(hi:i<S.Aw.length)(q:Nat):Good S.Aw.length (S.CC i q):=by
 have h1:=Al.Le hk hi q;have h2:=Al.Cg S i ((S.t i).keep q);unfold Al.CC;split
 ·exact⟨hk,rfl⟩
 ·split<;>exact⟨h1,h2⟩
theorem br {S:Al}(hk:S.ok){i:Nat}(hi:i<S.Aw.length)(p:Nat):Good S.Aw.length (S.Ca i p):=by
 have hf:=Al.Dd hk hi p;have hl:=gz S i p;have hp:=Al.CV hf p 0;unfold Al.Ca;split
 ·exact⟨hf,hl⟩
 ·split
  ·exact⟨hf,hl⟩
  ·split
   ·exact⟨hp,hl⟩
   ·rw[<-hl]
    exact VZ (S:=(S.AK i p).1.h ((S.AK i p).1.H.A5 p 0).1) hp (by show i<(S.AK i p).1.Aw.length;rw[hl];exact hi) _
theorem Al.Fh {S:Al}(h:S.ok){z:Int}{v:Nat}(hz:-1<=z/\z<=8)(hv:v<=S.now):Al.ok { S with Av:=z,version:=v }:=
 ⟨h.H,h.n2,h.lv,h.t1,h.t8,h.lg,h.st,hv,hz,h.sc,h.so,h.qu,h.nx,h.cm,h.se,h.ph⟩
theorem mj {S:Al}(hk:S.ok){i:Nat}(hi:i<S.Aw.length):Good S.Aw.length (S.B9 i):=by
 have h8:=hk.t8;unfold Al.B9;split
 ·exact⟨hk,rfl⟩
 ·split
  ·exact⟨Al.Fh hk (by omega) hk.ve,rfl⟩
  ·rename_i z l hq
   split
   ·exact⟨Al.Fh hk (by omega) hk.ve,rfl⟩
   ·have h1:Al.ok { S with Av:=i }:=Al.Fh hk (by omega) hk.ve
    have hx:=Al.AV hi;have hlv:=ye S.Aw i ((S.t i).BP z) _ hx;have htk:=yf S.Aw i ((S.t i).BP z) _ hx;have hmem:∀ y ∈ S.Aw.set i ((S.t i).BP z),y ∈ S.Aw\/y=(S.t i).BP z:=fun z hz=>List.mem_or_eq_of_mem_set hz
    have e1:((S.t i).BP z).AX.length=(S.t i).AX.length+1:=by simp[Tx.BP]
    have e2:((S.t i).BP z).live=(S.t i).live:=rfl;rw[e1]at htk;rw[e2]at hlv;have hlv':=Nat.add_right_cancel hlv;have hqu:=hk.qu;rw[hq,Qv]at hqu;refine⟨⟨hk.H,hk.n2,by show S.now+js (S.Aw.set i _)<=S.most;rw[hlv'];exact hk.lv,by simpa [Al.tx] using hk.t1,by simpa [Al.tx] using hk.t8,fun z hz=>?_,fun z hz=>?_,hk.ve,h1.ho,hk.sc,hk.so,by show l.length+kq (S.Aw.set i _)<=S.next;omega,hk.nx,hk.cm,fun z hz=>?_,hk.ph⟩,by simp[Al.tx]⟩
    ·rcases hmem z hz with h|rfl
     ·exact hk.lg z h
     ·exact hk.Em hi
    ·rcases hmem z hz with h|rfl
     ·exact hk.st z h
     ·exact hk.SO hi
    ·rcases hmem z hz with h|rfl
     ·exact hk.se z h
     ·exact hk.set hi
theorem Al.Ey:∀ (zs:List (Nat×Nat)){S:Al}{v:Nat},S.ok->v<=1099511627776->(S.h (S.H.B7 zs v)).ok
 | [],_,_,hk,_=>hk
 | z::zs,S,v,hk,hv=>Al.Ey zs (S:=S.h (S.H.AB z.1 (2*v)).1) (Al.Fo hk z.1 hv) hv
theorem Xq (H:Hp)(zs:List (Nat×Nat))(z:Nat×Nat)(v:Nat):H.B7 (zs++[z]) v=((H.B7 zs v).AB z.1 (2*v)).1:=by unfold Hp.B7;rw[List.foldl_append];rfl
theorem RJ:∀ (l:List Tx)(i:Nat)(x:Tx),l[i]?=some x->x.live=true->1<=js l
 | [],i,x,h,_=>by simp at h
 | q::l,0,x,h,hl=>by simp at h;subst h;rw[jy,if_pos hl];omega
 | q::l,i+1,x,h,hl=>by have:=RJ l i x (by simpa using h) hl;rw[jy];omega
theorem Al.Fl {S:Al} (hk:S.ok) {i:Nat} (hi:i<S.Aw.length) (hl:(S.t i).live=true) {z:Int} {v:Nat} (hz:-1<=z/\z<=8) (hv:v<=S.now+1) :
  Al.ok (({ S with now:=S.now+1,H:=S.H.B7 (S.t i).log.holds (S.now+1),Av:=z,version:=v }:Al).tx i (S.t i).ended):=by
 have h1:=RJ S.Aw i _ (Al.AV hi) hl;have h2:=hk.lv;have h3:=hk.n2;have hc:=Al.Ey (S.t i).log.holds hk (v:=S.now+1) (by omega)
 have he:=Al.DG hc (i:=i) hi (q:=S.queue) (z:=z) (v:=S.version) (by show S.queue.length<=S.queue.length+_;omega) hz hk.ve
 have hls:=ye S.Aw i (S.t i).ended _ (Al.AV hi);rw[hl]at hls;have e0:(S.t i).ended.live=false:=rfl;rw[e0]at hls;simp only[if_true,Bool.false_eq_true,if_false]at hls;exact⟨he.H,he.n2,by show S.now+1+js (S.Aw.set i (S.t i).ended)<=S.most;omega,he.t1,he.t8,he.lg,fun x hx=>Qu (he.st x hx),hv,hz,he.sc,he.so,he.qu,he.nx,he.cm,he.se,he.ph⟩
theorem mg {S:Al} (hk:S.ok) {i:Nat} (hi:i<S.Aw.length) (hl:(S.t i).live=true):Good S.Aw.length (S.AQ i):=by
 unfold Al.AQ;split
 ·exact⟨Al.DG hk hi (q:=S.queue) (z:=S.Av) (v:=S.version) (by omega) hk.ho hk.ve,by simp[Al.tx]⟩
 ·split
  ·exact⟨hk,rfl⟩
  ·unfold Al.BS
   split
   ·exact⟨Al.Fl hk hi hl (z:=-1) (v:=S.now+1) (by omega) (Qk _),by simp[Al.tx]⟩
   ·exact⟨Al.Fl hk hi hl (z:=S.Av) (v:=S.version) hk.ho (by have:=hk.ve;omega),by simp[Al.tx]⟩
theorem RX {S:Al}(hk:S.ok){i:Nat}(hi:i<S.Aw.length):(S.AO i).1.ok:=by
 unfold Al.AO;split
 ·exact hk
 ·rename_i hl
  split
  ·rename_i hm
   have hx:=Al.AV hi;have hlv:=ye S.Aw i ((S.t i).begun S.now S.next) _ hx;have htk:=yf S.Aw i ((S.t i).begun S.now S.next) _ hx;have hmem:∀ y ∈ S.Aw.set i ((S.t i).begun S.now S.next),y ∈ S.Aw\/y=(S.t i).begun S.now S.next:=fun z hz=>List.mem_or_eq_of_mem_set hz
   have e1:((S.t i).begun S.now S.next).AX.length=(S.t i).AX.length:=rfl;have e2:((S.t i).begun S.now S.next).live=true:=rfl;rw[e1]at htk;rw[e2,if_neg hl,if_pos rfl]at hlv;refine⟨hk.H,hk.n2,by show S.now+js (S.Aw.set i _)<=S.most;omega,by simpa [Al.tx] using hk.t1,by simpa [Al.tx] using hk.t8,fun z hz=>?_,fun z hz=>?_,hk.ve,hk.ho,hk.sc,hk.so,by show S.queue.length+kq (S.Aw.set i _)<=S.next;have:=hk.qu;omega,hk.nx,hk.cm,fun z hz=>?_,hk.ph⟩
   ·rcases hmem z hz with h|rfl
    ·exact hk.lg z h
    ·exact hk.Em hi
   ·rcases hmem z hz with h|rfl
    ·exact hk.st z h
    ·exact Qk _
   ·rcases hmem z hz with h|rfl
    ·exact hk.se z h
    ·exact Qk _
  ·exact hk
theorem qjp (S:Al)(i:Nat):(S.AO i).1.Aw.length=S.Aw.length:=by
 unfold Al.AO;split
 ·rfl
 ·split
  ·exact Al.Cg _ _ _
  ·rfl
theorem qoe {S:Al}(hk:S.ok){i:Nat}(hi:i<S.Aw.length):(S.CZ i).1.ok:=by
 unfold Al.CZ;split
 ·exact Al.Dx hk hi
 ·exact hk
end
end Go.Proofs.YteehgedabdchcaaGreat
