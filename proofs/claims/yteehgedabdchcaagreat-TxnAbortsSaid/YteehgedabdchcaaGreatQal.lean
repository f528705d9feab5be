import Derived.Test.YteehgedabdchcaaGreatQak
set_option linter.all false
set_option maxRecDepth 1000000
set_option maxHeartbeats 16000000
namespace Go.Proofs.YteehgedabdchcaaGreat
open Go.RowKit Hp
attribute [local go_sem ↓] Go.wp_at_zero Go.wp_at_succ
def shp0:Shp:=⟨0,0,false,false⟩
def Tx.read (x:Tx)(p:Nat):Tx:={ x with log:={ x.log with reads:=noteL x.log.reads p x.log.mr } }
def Tx.keep (x:Tx)(p:Nat):Tx:={ x with log:={ x.log with keeps:=noteL x.log.keeps p x.log.mr } }
def Tx.holding (x:Tx)(p v:Nat):Tx:={ x with log:={ x.log with holds:=x.log.holds++[(p,v)] } }
def Tx.undo (x:Tx)(u:Un):Tx:={ x with log:={ x.log with undos:=x.log.undos++[u] } }
def mayHold (L:Lg)(p:Nat):Bool:=decide (∀ z ∈ L.holds,z.1≠p)&&decide (L.holds.length<L.mu)
def Stt.lookR (S:Stt)(i p:Nat):Stt×Int×Shp:=
 if p=0 then (S,143,shp0) else match lk S.H.cur p with
 | none=>(S,70,shp0)
 | some ob=>if clashB i (S.t i).start ob.second=true then (S,141,shp0) else
   (S.tx i ((S.t i).read p),if noteB (S.t i).log.reads p (S.t i).log.mr then (if ob.freed then 142 else 0) else 130,if noteB (S.t i).log.reads p (S.t i).log.mr&&!ob.freed then ob.shp else shp0)
def Stt.fieldsR (S:Stt)(i p:Nat):Stt×Int:=((S.lookR i p).1,if (S.lookR i p).2.1=0 then (if (S.lookR i p).2.2.weak then 144 else 0) else (S.lookR i p).2.1)
def Stt.undoR (S:Stt)(i:Nat)(u:Un):Stt×Bool:=if (S.t i).log.undos.length<(S.t i).log.mu then (S.tx i ((S.t i).undo u),true) else (S,false)
def Stt.holdLR (S:Stt)(i p v:Nat):Stt×Bool:=if mayHold (S.t i).log p=true then (S.tx i ((S.t i).holding p v),true) else (S,false)
def Stt.ownR (S:Stt)(i p:Nat):Stt:={ S with H:=(S.H.setSecondR p (2*i+1)).1 }
def Stt.holdR (S:Stt)(i p:Nat):Stt×Bool:=
 if S.H.sec p%2=1 then (S,true) else if (S.holdLR i p (S.H.sec p/2)).2=true then ((S.holdLR i p (S.H.sec p/2)).1.ownR i p,true) else (S,false)
theorem noteL_len (l:List Nat)(p m:Nat)(h:l.length≤m):(noteL l p m).length≤m:=by
 unfold noteL;split
 ·exact h
 ·split
  ·simp;omega
  ·exact h
theorem Lg.fit_read {L:Lg}(h:L.fit)(p:Nat):Lg.fit { L with reads:=noteL L.reads p L.mr }:=⟨⟨h.ok.mr,h.ok.mu,noteL_len _ _ _ h.ok.r,h.ok.k,h.ok.h,h.ok.u⟩,h.hv,h.un,h.kd⟩
theorem Lg.fit_hold {L:Lg}(h:L.fit)(p v:Nat)(hv:v≤1099511627776)(hm:L.holds.length<L.mu):Lg.fit { L with holds:=L.holds++[(p,v)] }:=
 ⟨⟨h.ok.mr,h.ok.mu,h.ok.r,h.ok.k,by simp;omega,h.ok.u⟩,fun z hz=>by
  rcases List.mem_append.1 hz with hz|hz
  ·exact h.hv z hz
  ·rw[List.mem_singleton.1 hz];exact hv,h.un,h.kd⟩
theorem Lg.fit_undo {L:Lg}(h:L.fit)(u:Un)(h1:-9223372036854775808≤u.old∧u.old≤9223372036854775807)(h2:u.kind=1→0≤u.old)(hm:L.undos.length<L.mu):Lg.fit { L with undos:=L.undos++[u] }:=
 ⟨⟨h.ok.mr,h.ok.mu,h.ok.r,h.ok.k,h.ok.h,by simp;omega⟩,h.hv,fun z hz=>by
  rcases List.mem_append.1 hz with hz|hz
  ·exact h.un z hz
  ·rw[List.mem_singleton.1 hz];exact h1,fun z hz=>by
  rcases List.mem_append.1 hz with hz|hz
  ·exact h.kd z hz
  ·rw[List.mem_singleton.1 hz];exact h2⟩
theorem Lg.fit_reset {L:Lg}(h:L.fit):Lg.fit { L with reads:=[],keeps:=[],holds:=[],undos:=[] }:=
 ⟨⟨h.ok.mr,h.ok.mu,Nat.zero_le _,Nat.zero_le _,Nat.zero_le _,Nat.zero_le _⟩,fun z hz=>(by cases hz),fun z hz=>(by cases hz),fun z hz=>(by cases hz)⟩
theorem Stt.ok.lgt {S:Stt}(hk:S.ok){i:Nat}(hi:i<S.txs.length):(S.t i).log.fit:=hk.lg _ (List.mem_of_getElem? (Stt.t_get hi))
theorem Stt.ok.stt {S:Stt}(hk:S.ok){i:Nat}(hi:i<S.txs.length):(S.t i).start≤S.now:=hk.st _ (List.mem_of_getElem? (Stt.t_get hi))
theorem Stt.ok.set {S:Stt}(hk:S.ok){i:Nat}(hi:i<S.txs.length):(S.t i).seen≤S.next:=hk.se _ (List.mem_of_getElem? (Stt.t_get hi))
theorem Stt.ok_log {S:Stt}(hk:S.ok){i:Nat}(hi:i<S.txs.length){L:Lg}(h:L.fit):Stt.ok (S.tx i { S.t i with log:=L }):=
 Stt.ok_tx hk (Stt.t_get hi) h (hk.stt hi) (hk.set hi) rfl rfl
theorem Stt.ok_read {S:Stt}(hk:S.ok){i:Nat}(hi:i<S.txs.length)(p:Nat):Stt.ok (S.tx i ((S.t i).read p)):=Stt.ok_log hk hi (Lg.fit_read (hk.lgt hi) p)
theorem Stt.ok_look {S:Stt}(hk:S.ok){i:Nat}(hi:i<S.txs.length)(p:Nat):(S.lookR i p).1.ok:=by
 unfold Stt.lookR;split
 ·exact hk
 ·split
  ·exact hk
  ·split
   ·exact hk
   ·exact Stt.ok_read hk hi p
theorem look_len (S:Stt)(i p:Nat):(S.lookR i p).1.txs.length=S.txs.length:=by
 unfold Stt.lookR;split
 ·rfl
 ·split
  ·rfl
  ·split
   ·rfl
   ·exact Stt.tx_len _ _ _
theorem Stt.ok_undo {S:Stt}(hk:S.ok){i:Nat}(hi:i<S.txs.length)(u:Un)(h1:-9223372036854775808≤u.old∧u.old≤9223372036854775807)(h2:u.kind=1→0≤u.old):(S.undoR i u).1.ok:=by
 unfold Stt.undoR;split
 ·rename_i hm;exact Stt.ok_log hk hi (Lg.fit_undo (hk.lgt hi) u h1 h2 hm)
 ·exact hk
theorem undo_len (S:Stt)(i:Nat)(u:Un):(S.undoR i u).1.txs.length=S.txs.length:=by
 unfold Stt.undoR;split
 ·exact Stt.tx_len _ _ _
 ·rfl
theorem Stt.ok_holdL {S:Stt}(hk:S.ok){i:Nat}(hi:i<S.txs.length)(p v:Nat)(hv:v≤1099511627776):(S.holdLR i p v).1.ok:=by
 unfold Stt.holdLR;split
 ·rename_i hm
  unfold mayHold at hm;simp only[Bool.and_eq_true,decide_eq_true_eq]at hm;exact Stt.ok_log hk hi (Lg.fit_hold (hk.lgt hi) p v hv hm.2)
 ·exact hk
theorem holdL_len (S:Stt)(i p v:Nat):(S.holdLR i p v).1.txs.length=S.txs.length:=by
 unfold Stt.holdLR;split
 ·exact Stt.tx_len _ _ _
 ·rfl
theorem Stt.ok_own {S:Stt}(hk:S.ok){i:Nat}(hi:i<S.txs.length)(p:Nat):(S.ownR i p).ok:=by
 have h8:=hk.t8;exact Stt.ok_setSecond hk p (by omega) (fun _=>by omega)
theorem Stt.ok_hold {S:Stt}(hk:S.ok){i:Nat}(hi:i<S.txs.length)(p:Nat):(S.holdR i p).1.ok:=by
 unfold Stt.holdR;have h2:=(hk.sec p).2;split
 ·exact hk
 ·split
  ·exact Stt.ok_own (Stt.ok_holdL hk hi p _ (by omega)) (by rw[holdL_len];exact hi) p
  ·exact hk
theorem hold_len (S:Stt)(i p:Nat):(S.holdR i p).1.txs.length=S.txs.length:=by
 unfold Stt.holdR;split
 ·rfl
 ·split
  ·exact holdL_len _ _ _ _
  ·rfl
section
variable {w w' : World} {o o' : Own} {id k b : Nat} {L : Lg} {vr vk vh vu : Value}
theorem log_hold_dup (h:LgIn w o id k b L vr vk vh vu)(hk:L.ok)(p v:Nat)(hp:¬∀ x ∈ L.holds,x.1≠p) :
  Calls Tryz.prog 168 #[.pointer (some ⟨b,0,none⟩),.agg #[.int .i64 p,.int .i64 v]] w fun e w'=>e=.returned (.bool false)∧Below w.heap.size w w':=by
 have HI:=Lib.hid h;have j:=h.blk;have c:=h.blk.cell;have s:=h.blk.lt;obtain⟨pa,cp,rfl⟩:=h.rh.slc;have hlen:=Lib.hid (show L.holds.length≤200 by have:=hk.h;have:=hk.mu;omega)
 have HP:=Lib.hid hp;clear h hk hp;go_enter Tryz.func168,Tryz.ntmps168;go_wp2_with fail;go_loopw [14](fun ix wr=>∃ i:Nat,ix=.int .i64 i∧i≤L.holds.length∧(∀ (n:Nat) x,n<i→L.holds[n]?=some x→x.1≠p)∧Below w.heap.size w wr∧Blk wr w.heap.size #[.int .i64 p,.int .i64 v] 131)(fun ix _=>L.holds.length-(intOf ix).toNat)
 case atStart=>exact⟨0,rfl,by omega,fun n x hn=>by omega,balloc (bsame w) _,Blk.new w _ _⟩
 case round =>
  obtain⟨i,rfl,hil,hno,hbr,jB⟩:=hrel;replace hno:=Lib.hid hno;clear c s;have jL:=j.below hbr j.lt;have cL:=jL.cell;have sL:=jL.lt;have cB:=jB.cell;have sB:=jB.lt;have hR:=HI.out.rh.below hbr;have hlt:i<L.holds.length:=by
   refine Nat.lt_of_not_le fun hge=>HP.out fun x hx=>?_
   obtain⟨n,hn⟩:=List.getElem?_of_mem hx;exact hno.out n x (by have:=(List.getElem?_eq_some_iff.1 hn).1;omega) hn
  obtain⟨x,hx⟩:∃ x,L.holds[i]?=some x:=⟨_,List.getElem?_eq_getElem hlt⟩;rcases hR.own.2 with ⟨e1,e2⟩|⟨g,cap,cur,e1,_,hg,hn,hc,_⟩
  ·omega
  ·injection e1 with e1 _ e2
   subst e1 e2;obtain⟨c0,c1⟩:=hR.cell2 i x hx;have sg:g<wr.heap.size:=(Array.getElem?_eq_some_iff.1 hg).1;have hI:(i:Int)<(L.holds.length:Int):=by omega
   have hI2:(i:Int)<200:=by have:=hlen.out;omega
   unfold nv at c0 c1;have hno2:=Lib.hid (fun (hne:x.1≠p)(n:Nat) z (hn:n<i+1)(hz:L.holds[n]?=some z)=>show z.1≠p from by
    by_cases e:n=i
    ·subst e;rw[hx]at hz;injection hz with hz;subst hz;exact hne
    ·exact hno.out n z (by omega) hz)
   clear hg hR hx hc;by_cases hxp:x.1=p
   ·have hxp:(x.1:Int)=(p:Int):=by omega
    go_wp2_with fail;go_ret;exact⟨rfl,balloc hbr _⟩
   ·have hno3:=Lib.hid (hno2.out hxp)
    have hne:(x.1:Int)≠(p:Int):=by omega
    clear hno2;go_wp2_with fail;go_roundw
    case rel=>exact⟨i+1,by simp,by omega,hno3.out,balloc hbr _,jB.alloc _⟩
    case measure=>simp[intOf];omega
end
section
variable {w w' : World} {o o' : Own} {y : SLay} {S : Stt} {x : Tx} {i : Nat}
theorem log_tx (h:StIn w o y S)(hx:S.txs[i]?=some x){L':Lg}{j:Nat}(hj:j=1∨j=2∨j=3∨j=4){vr vk vh vu:Value}(hl:LgIn w' o' y.l.id (17+8*i) (y.lb i) L' vr vk vh vu)(hs:Stp (fun t=>t=(y.l.id,17+8*i)∨t=(y.l.id,17+8*i+j)) o o' w w') :
  Lft y (S.tx i { x with log:=L' }) o w w'∧Stp (txTag y i) o o' w w'∧StIn w' o' y (S.tx i { x with log:=L' }):=by
 have ht:=h.txs i x hx;obtain⟨vt,hb,hr⟩:=ht.blk;have hst:Stp (txTag y i) o o' w w':=hs.mono (by rintro _ (rfl|rfl)<;>exact⟨rfl,by simp<;>omega,by simp<;>omega⟩)
 have h1:StIn w' o' y (S.tx i { x with log:=L' }):=h.tx ⟨⟨vt,hb.stp hs (by rw[ht.ob];simp;omega),hr.stp hs (by simp;omega)⟩,⟨_,_,_,_,hl⟩,(hst.tags _ hb.lt).trans ht.ob⟩ hst
 exact⟨⟨o',h1,hst.mono fun _=>stTag_tx⟩,hst,h1⟩
theorem s_read (h:StIn w o y S)(hk:S.ok)(hi:i<S.txs.length)(p:Nat) :
  Calls Tryz.prog 183 #[ptr (y.lb i),.int .i64 p] w fun e w'=>e=.returned (.bool (noteB (S.t i).log.reads p (S.t i).log.mr))∧Lft y (S.tx i ((S.t i).read p)) o w w':=by
 obtain⟨vr,vk,vh,vu,hl⟩:=(h.txs i _ (Stt.t_get hi)).log;refine (log_read hl (hk.lgt hi).ok p).mono ?_
 rintro e w'⟨rfl,vr',o',hl',hs⟩
 exact⟨rfl,(log_tx h (Stt.t_get hi) (.inl rfl) hl' hs).1⟩
theorem s_logundo (h:StIn w o y S)(hk:S.ok)(hi:i<S.txs.length)(u:Un) :
  Calls Tryz.prog 120 #[ptr (y.lb i),unV u] w fun e w'=>e=.returned (.bool (S.undoR i u).2)∧Lft y (S.undoR i u).1 o w w':=by
 obtain⟨vr,vk,vh,vu,hl⟩:=(h.txs i _ (Stt.t_get hi)).log;unfold Stt.undoR;by_cases hm:(S.t i).log.undos.length<(S.t i).log.mu
 ·rw[if_pos hm]
  refine (log_undo_room hl (hk.lgt hi).ok u hm).mono ?_
  rintro e w'⟨rfl,vr',o',hl',hs⟩
  exact⟨rfl,(log_tx h (Stt.t_get hi) (.inr (.inr (.inr rfl))) hl' hs).1⟩
 ·rw[if_neg hm]
  refine (log_undo_full hl u (by omega)).mono ?_
  rintro e w'⟨rfl,hb⟩
  exact⟨rfl,h.lft hb⟩
theorem s_loghold (h:StIn w o y S)(hk:S.ok)(hi:i<S.txs.length)(p v:Nat) :
  Calls Tryz.prog 168 #[ptr (y.lb i),.agg #[.int .i64 p,.int .i64 v]] w fun e w'=>e=.returned (.bool (S.holdLR i p v).2)∧Lft y (S.holdLR i p v).1 o w w':=by
 obtain⟨vr,vk,vh,vu,hl⟩:=(h.txs i _ (Stt.t_get hi)).log;unfold Stt.holdLR;by_cases hd:∀ z ∈ (S.t i).log.holds,z.1≠p
 ·by_cases hm:(S.t i).log.holds.length<(S.t i).log.mu
  ·have e1:mayHold (S.t i).log p=true:=by unfold mayHold;simp only[Bool.and_eq_true,decide_eq_true_eq];exact⟨hd,hm⟩
   rw[if_pos e1];refine (log_hold_room hl (hk.lgt hi).ok p v hd hm).mono ?_
   rintro e w'⟨rfl,vr',o',hl',hs⟩
   exact⟨rfl,(log_tx h (Stt.t_get hi) (.inr (.inr (.inl rfl))) hl' hs).1⟩
  ·have e1:¬mayHold (S.t i).log p=true:=by unfold mayHold;simp only[Bool.and_eq_true,decide_eq_true_eq];exact fun h=>hm h.2
   rw[if_neg e1];refine (log_hold_full hl (hk.lgt hi).ok p v hd (by omega)).mono ?_
   rintro e w'⟨rfl,hb⟩
   exact⟨rfl,h.lft hb⟩
 ·have e1:¬mayHold (S.t i).log p=true:=by unfold mayHold;simp only[Bool.and_eq_true,decide_eq_true_eq];exact fun h=>hd h.1
  rw[if_neg e1];refine (log_hold_dup hl (hk.lgt hi).ok p v hd).mono ?_
  rintro e w'⟨rfl,hb⟩
  exact⟨rfl,h.lft hb⟩
theorem look_nil (w:World)(a b:Value) :
  Calls Tryz.prog 118 #[a,b,.int .i64 0] w fun e w'=>e=.returned (.tuple #[shpV shp0,.int .i64 143])∧Below w.heap.size w w':=by
 go_enter Tryz.func118,Tryz.ntmps118;go_wp2_with fail;refine bodyPost_ret (v:=.tuple #[shpV ⟨0,0,false,false⟩,.int .i64 143]) (by simp[results,Tryz.results118,go_sem]) rfl ⟨rfl,?_⟩
 repeat (first|exact balloc (bsame w) _|refine bset ?_ (Nat.le_refl _) _)
theorem look_no (h:StIn w o y S)(hk:S.ok)(b:Value){p:Nat}(hp:lk S.H.cur p=none)(h0:p≠0) :
  Calls Tryz.prog 118 #[ptr y.sb,b,.int .i64 p] w fun e w'=>e=.returned (.tuple #[shpV shp0,.int .i64 70])∧Below w.heap.size w w':=by
 obtain⟨vc,vo,vw,vf,f,hh⟩:=h.hp;have HS:=Lib.hid (fun w' (hw:Below w.heap.size w w')=>hshape_no (hh.below hw) hk.H.ok hp)
 obtain⟨vq,vl,vm,jb,_⟩:=h.blk;unfold stCells at jb;have c:=jb.cell;have sb:=jb.lt;clear h hk hh hp;go_enter Tryz.func118,Tryz.ntmps118;go_wp2_with fail;refine (HS.out _ (balloc (bsame w) _)).mono ?_
 rintro e w1 ⟨rfl,hb1⟩
 have jR:=(Blk.new w #[.int .i64 0,.int .i64 0,.bool false,.bool false] 93).below hb1 (by simp)
 have hw1:=btrans (balloc (bsame w) _) hb1;clear hb1;have cR:=jR.cell;have zR:=jR.free;have sR:=jR.lt;go_wp2_with fail;refine bodyPost_ret (v:=.tuple #[shpV ⟨0,0,false,false⟩,.int .i64 70]) (by simp[results,Tryz.results118,go_sem,cR,sR]) rfl ⟨rfl,?_⟩
 repeat (first|exact hw1|refine bset ?_ (Nat.le_refl _) _|refine balloc ?_ _)
theorem look_clash (h:StIn w o y S)(hk:S.ok)(hi:i<S.txs.length){p:Nat}{ob:Ob}(hp:lk S.H.cur p=some ob)(hc:clashB i (S.t i).start ob.second=true)(h0:p≠0) :
  Calls Tryz.prog 118 #[ptr y.sb,ptr (y.xb i),.int .i64 p] w fun e w'=>e=.returned (.tuple #[shpV shp0,.int .i64 141])∧Below w.heap.size w w':=by
 obtain⟨vc,vo,vw,vf,f,hh⟩:=h.hp;have HS:=Lib.hid (fun w' (hw:Below w.heap.size w w')=>hshape_in (hh.below hw) hk.H.ok hp)
 have HC:=(fun w' (hw:Below w.heap.size w w')=>clash_in (h.below hw) hk (Stt.t_get hi) p)
 have e1:S.H.sec p=ob.second:=by unfold Hp.sec;rw[hp]
 rw[e1,hc]at HC;replace HC:=Lib.hid HC;obtain⟨vq,vl,vm,jb,_⟩:=h.blk;unfold stCells at jb;have c:=jb.cell;have sb:=jb.lt;clear h hk hh hp hi hc e1;obtain⟨⟨sp,sd,wk,fn⟩,fr,se,sr,ps,ns⟩:=ob;simp only at HS;go_enter Tryz.func118,Tryz.ntmps118;go_wp2_with fail;refine (HS.out _ (balloc (bsame w) _)).mono ?_
 rintro e w1 ⟨rfl,hb1⟩
 have jR:=(Blk.new w #[.int .i64 0,.int .i64 0,.bool false,.bool false] 93).below hb1 (by simp)
 have hw1:=btrans (balloc (bsame w) _) hb1;clear hb1;go_wp2_with fail;refine (HC.out _ (balloc hw1 _)).mono ?_
 rintro e w2 ⟨rfl,hb2⟩
 have jR2:=(jR.alloc (.cells #[.int .i64 sp,.int .i64 sd,.bool wk,.bool fn] 93)).below hb2 (jR.alloc _).lt;have hw2:=btrans (balloc hw1 _) hb2;clear hb2 jR c;have cR:=jR2.cell;have zR:=jR2.free;have sR:=jR2.lt;go_wp2_with fail;refine bodyPost_ret (v:=.tuple #[shpV ⟨0,0,false,false⟩,.int .i64 141]) (by simp[results,Tryz.results118,go_sem,cR]) rfl ⟨rfl,?_⟩
 repeat (first|exact hw2|refine bset ?_ (Nat.le_refl _) _)
theorem Lft.from (h0:Stp (stTag y) o o' w w'){w2:World}{S':Stt}(h:Lft y S' o' w' w2):Lft y S' o w w2:=by
 obtain⟨o2,h1,h2⟩:=h;exact⟨o2,h1,h0.trans h2⟩
theorem look_in (h0:StIn w o y S)(hk:S.ok)(hi:i<S.txs.length){p:Nat}{ob:Ob}(hp:lk S.H.cur p=some ob)(hc:clashB i (S.t i).start ob.second=false)(hp0:p≠0) :
  Calls Tryz.prog 118 #[ptr y.sb,ptr (y.xb i),.int .i64 p] w fun e w' =>
   e=.returned (.tuple #[shpV (if noteB (S.t i).log.reads p (S.t i).log.mr&&!ob.freed then ob.shp else shp0),.int .i64 (if noteB (S.t i).log.reads p (S.t i).log.mr then (if ob.freed then 142 else 0) else 130)])∧Lft y (S.tx i ((S.t i).read p)) o w w':=by
 obtain⟨o1,ho1⟩:∃ o1,o1=ext o w.heap.size (y.l.id+1,0):=⟨_,rfl⟩;have h:=h0.retag (o':=o1) fun b hb=>by rw[ho1];exact ext_lt hb
 have hS0:Stp (stTag y) o o1 w w:=by rw[ho1];exact (Stp.refl _ o w).ext _ _ (Nat.le_refl _)
 have hbx:∀ b,w.heap.size≤b→o1 b=(y.l.id+1,0):=fun b hb=>by rw[ho1];exact ext_ge hb
 clear ho1 h0;obtain⟨vc,vo,vw,vf,f,hh⟩:=h.hp;have HS:=Lib.hid (fun w' (hw:Below w.heap.size w w')=>hshape_in (hh.below hw) hk.H.ok hp)
 have HC:=(fun w' (hw:Below w.heap.size w w')=>clash_in (h.below hw) hk (Stt.t_get hi) p)
 have e1:S.H.sec p=ob.second:=by unfold Hp.sec;rw[hp]
 rw[e1,hc]at HC;replace HC:=Lib.hid HC;have HL:=Lib.hid (fun w' (hw:Below w.heap.size w w')=>s_read (h.below hw) hk hi p)
 obtain⟨vt,jx,_⟩:=(h.txs i _ (Stt.t_get hi)).blk;unfold txCells at jx;obtain⟨vq,vl,vm,jb,_⟩:=h.blk;unfold stCells at jb;have c:=jb.cell;have sb:=jb.lt;generalize noteB (S.t i).log.reads p (S.t i).log.mr=nb at *;generalize S.tx i ((S.t i).read p)=S' at *;clear h hk hh hp hc e1;obtain⟨⟨sp,sd,wk,fn⟩,fr,se,sr,ps,ns⟩:=ob;simp only at HS;go_enter Tryz.func118,Tryz.ntmps118;go_wp2_with fail;refine (HS.out _ (balloc (bsame w) _)).mono ?_
 rintro e w1 ⟨rfl,hb1⟩
 have jR:=(Blk.new w #[.int .i64 0,.int .i64 0,.bool false,.bool false] 93).below hb1 (by simp)
 have hw1:=btrans (balloc (bsame w) (.cells #[.int .i64 0,.int .i64 0,.bool false,.bool false] 93)) hb1;have hz1:w.heap.size<w1.heap.size:=jR.lt;clear hb1;go_wp2_with fail;refine (HC.out _ (balloc hw1 _)).mono ?_
 rintro e w2 ⟨rfl,hb2⟩
 have jR2:=(jR.alloc (.cells #[.int .i64 sp,.int .i64 sd,.bool wk,.bool fn] 93)).below hb2 (jR.alloc _).lt;have jS2:=(Blk.new w1 #[.int .i64 sp,.int .i64 sd,.bool wk,.bool fn] 93).below hb2 (by simp)
 have hw2:=btrans (balloc hw1 (.cells #[.int .i64 sp,.int .i64 sd,.bool wk,.bool fn] 93)) hb2;clear hb2 jR c;have cx:=(jx.below hw2 jx.lt).cell;go_wp2_with fail;refine (HL.out _ hw2).mono ?_
 rintro e w3 ⟨rfl,o3,hl3,hs3⟩
 have hnb:∀ b,w.heap.size≤b→¬stTag y (o1 b):=fun b hb=>by rw[hbx b hb];exact stTag_box y
 have jR3:=jR2.stp hs3 (hnb _ (Nat.le_refl _));have t3:o3 w.heap.size=(y.l.id+1,0):=(hs3.tags _ jR2.lt).trans (hbx _ (Nat.le_refl _));have jS3:=jS2.stp hs3 (hnb _ (by omega))
 have hst:Stp (stTag y) o o3 w w3:=hS0.trans ((Stp.of_below hw2).trans hs3);clear cx jR2 jS2 hs3 hnb;have cR:=jR3.cell;have zR:=jR3.free;have sR:=jR3.lt;have cS:=jS3.cell;have sS:=jS3.lt;have H2:=Lib.hid hl3;have H3:=Lib.hid hst;clear hl3 hst hS0
 cases nb
 ·go_wp2_with fail
  refine bodyPost_ret (v:=.tuple #[shpV ⟨0,0,false,false⟩,.int .i64 130]) (by simp[results,Tryz.results118,go_sem,cR]) rfl ⟨by cases fr<;>rfl,o3,?_,?_⟩
  ·repeat (first|exact H2.out|refine StIn.box ?_ t3 _)
  ·repeat (first|exact H3.out|refine Stp.setCell_new ?_ (Nat.le_refl _) _)
 ·cases fr
  ·go_wp2_with fail
   refine bodyPost_ret (v:=.tuple #[shpV ⟨sp,sd,wk,fn⟩,.int .i64 0]) (by simp[results,Tryz.results118,go_sem,cR]) rfl ⟨rfl,o3,?_,?_⟩
   ·repeat (first|exact H2.out|refine StIn.box ?_ t3 _)
   ·repeat (first|exact H3.out|refine Stp.setCell_new ?_ (Nat.le_refl _) _)
  ·go_wp2_with fail
   refine bodyPost_ret (v:=.tuple #[shpV ⟨0,0,false,false⟩,.int .i64 142]) (by simp[results,Tryz.results118,go_sem,cR]) rfl ⟨rfl,o3,?_,?_⟩
   ·repeat (first|exact H2.out|refine StIn.box ?_ t3 _)
   ·repeat (first|exact H3.out|refine Stp.setCell_new ?_ (Nat.le_refl _) _)
theorem look_any (h:StIn w o y S)(hk:S.ok)(hi:i<S.txs.length)(p:Nat) :
  Calls Tryz.prog 118 #[ptr y.sb,ptr (y.xb i),.int .i64 p] w fun e w' =>
   e=.returned (.tuple #[shpV (S.lookR i p).2.2,.int .i64 (S.lookR i p).2.1])∧Lft y (S.lookR i p).1 o w w':=by
 unfold Stt.lookR;by_cases h0:p=0
 ·subst h0
  rw[if_pos rfl];exact (look_nil w _ _).mono fun _ _⟨a,b⟩=>⟨a,h.lft b⟩
 ·rw[if_neg h0]
  cases hp:lk S.H.cur p with
  | none=>exact (look_no h hk _ hp h0).mono fun _ _⟨a,b⟩=>⟨a,h.lft b⟩
  | some ob =>
   simp only
   cases hc:clashB i (S.t i).start ob.second with
   | true=>rw[if_pos rfl];exact (look_clash h hk hi hp hc h0).mono fun _ _⟨a,b⟩=>⟨a,h.lft b⟩
   | false=>rw[if_neg (by simp)];exact look_in h hk hi hp hc h0
theorem fields_any (h:StIn w o y S)(hk:S.ok)(hi:i<S.txs.length)(p:Nat) :
  Calls Tryz.prog 136 #[ptr y.sb,ptr (y.xb i),.int .i64 p] w fun e w'=>e=.returned (.int .i64 (S.fieldsR i p).2)∧Lft y (S.fieldsR i p).1 o w w':=by
 have HL:=look_any h hk hi p;unfold Stt.fieldsR;generalize S.lookR i p=r at *;obtain⟨S',e',s⟩:=r;obtain⟨sp,sd,wk,fn⟩:=s;simp only at HL ⊢;replace HL:=Lib.hid HL;clear h hk hi;by_cases he:e'=0
 ·subst he
  cases wk
  all_goals
   go_enter Tryz.func136,Tryz.ntmps136;go_wp2_with fail;refine HL.out.mono ?_
   rintro e w1⟨rfl,o1,hs1,hst⟩
   go_wp2_with fail;go_ret;exact⟨rfl,o1,hs1.alloc _,hst.alloc _⟩
 ·rw[if_neg he]
  have hb:(e'==0)=false:=by rw[beq_eq_false_iff_ne];exact he
  go_enter Tryz.func136,Tryz.ntmps136;go_wp2_with fail;refine HL.out.mono ?_
  rintro e w1⟨rfl,o1,hs1,hst⟩
  go_wp2_with fail;go_ret;exact⟨rfl,o1,hs1.alloc _,hst.alloc _⟩
theorem hold_any (h:StIn w o y S) (hk:S.ok) (hi:i<S.txs.length) (p:Nat) :
  Calls Tryz.prog 119 #[ptr y.sb,ptr (y.xb i),.int .i64 p] w fun e w'=>e=.returned (.bool (S.holdR i p).2)∧Lft y (S.holdR i p).1 o w w':=by
 have HC:=Lib.hid (s_second h hk p);obtain⟨hs,hv⟩:=hk.sec p;have HO:=(fun w=>owner_any (S.H.sec p) hv hs w)
 obtain⟨vq,vl,vm,hb,_⟩:=h.blk;unfold stCells at hb;have c:=hb.cell;obtain⟨vt,jx,_⟩:=(h.txs i _ (Stt.t_get hi)).blk;unfold txCells at jx;have HL:=(fun w' (hw:Below w.heap.size w w')=>s_loghold (h.below hw) hk hi p (S.H.sec p/2))
 have HW:=(fun w' o' (hw:StIn w' o' y (S.holdLR i p (S.H.sec p/2)).1)=>own_in hw (Stt.ok_holdL hk hi p _ (by omega)) (x:=(S.holdLR i p (S.H.sec p/2)).1.t i) (Stt.t_get (by rw[holdL_len];exact hi)) p)
 have HI:=Lib.hid h;unfold Stt.holdR;by_cases hod:S.H.sec p%2=1
 ·rw[if_pos hod]
  rw[if_pos hod,if_pos hod,decide_eq_true hod]at HO;replace HO:=Lib.hid HO;generalize S.H.sec p=v at *;clear h hk hs hv hod HL HW hi;go_enter Tryz.func119,Tryz.ntmps119;go_wp2_with fail;refine HC.out.mono ?_
  rintro e w1⟨er,rfl,hb1⟩
  go_wp2_with fail;refine (HO.out _).mono ?_
  rintro e w2⟨rfl,rfl⟩
  go_wp2_with fail;go_ret;exact⟨rfl,HI.out.lft hb1⟩
 ·rw[if_neg hod]
  rw[if_neg hod,if_neg hod,decide_eq_false hod]at HO;replace HO:=Lib.hid HO;have e3:({ (S.holdLR i p (S.H.sec p/2)).1 with H:=((S.holdLR i p (S.H.sec p/2)).1.H.setSecondR p (2*i+1)).1 }:Stt)=(S.holdLR i p (S.H.sec p/2)).1.ownR i p:=rfl;simp only[e3]at HW;generalize hq:(S.holdLR i p (S.H.sec p/2))=q at *;obtain⟨S2,ok⟩:=q;have hS2:ok=false→S2=S:=fun e=>by
   unfold Stt.holdLR at hq;split at hq
   ·injection hq with _ hq;rw[e]at hq;cases hq
   ·injection hq with hq _;exact hq.symm
  simp only at HL HW ⊢;replace HL:=Lib.hid HL;replace HW:=Lib.hid HW;generalize S2.ownR i p=S3 at *;generalize S.H.sec p/2=v2 at *;generalize S.H.sec p=v at *;replace hS2:=Lib.hid hS2;clear h hk hs hv hod hi e3 hq
  cases ok
  ·rw[if_neg (by simp)]
   go_enter Tryz.func119,Tryz.ntmps119;go_wp2_with fail;refine HC.out.mono ?_
   rintro e w1⟨er,rfl,hb1⟩
   have cx:=(jx.below hb1 jx.lt).cell;go_wp2_with fail;refine (HO.out _).mono ?_
   rintro e w2⟨rfl,rfl⟩
   go_wp2_with fail;refine (HL.out _ hb1).mono ?_
   rintro e w2⟨rfl,o2,hS2',hs2⟩
   rw[hS2.out (by simp)]at hS2'
   go_wp2_with fail;go_ret;exact⟨rfl,o2,hS2',(Stp.of_below hb1).trans hs2⟩
  ·rw[if_pos rfl]
   go_enter Tryz.func119,Tryz.ntmps119;go_wp2_with fail;refine HC.out.mono ?_
   rintro e w1⟨er,rfl,hb1⟩
   have cx:=(jx.below hb1 jx.lt).cell;go_wp2_with fail;refine (HO.out _).mono ?_
   rintro e w2⟨rfl,rfl⟩
   go_wp2_with fail;refine (HL.out _ hb1).mono ?_
   rintro e w2⟨rfl,o2,hS2',hs2⟩
   go_wp2_with fail;refine (HW.out _ _ hS2').mono ?_
   rintro e w3⟨rfl,hS3⟩
   go_wp2_with fail;go_ret;exact⟨rfl,Lft.from ((Stp.of_below hb1).trans hs2) hS3⟩
def Stt.layR (S:Stt)(i:Nat)(s:Shp):Stt×Nat×Int:=
 if (S.H.allocR s).2.2≠0 then (S,0,100) else
  if (({ S with H:=(S.H.allocR s).1 }:Stt).holdLR i (S.H.allocR s).2.1 0).2=true then ((({ S with H:=(S.H.allocR s).1 }:Stt).holdLR i (S.H.allocR s).2.1 0).1.ownR i (S.H.allocR s).2.1,(S.H.allocR s).2.1,0)
  else ({ S with H:=((S.H.allocR s).1.setFreedR (S.H.allocR s).2.1 true).1 },0,130)
theorem Stt.ok_layR {S:Stt}(hk:S.ok)(hi:i<S.txs.length){s:Shp}(hs:s.ok):(S.layR i s).1.ok:=by
 unfold Stt.layR;have h1:=Stt.ok_alloc hk hs;split
 ·exact hk
 ·split
  ·exact Stt.ok_own (Stt.ok_holdL h1 hi _ 0 (by omega)) (by rw[holdL_len];exact hi) _
  ·exact Stt.ok_setFreed h1 _ _
theorem lay_len (S:Stt)(i:Nat)(s:Shp):(S.layR i s).1.txs.length=S.txs.length:=by
 unfold Stt.layR;split
 ·rfl
 ·split
  ·exact holdL_len _ _ _ _
  ·rfl
theorem lay_any (h:StIn w o y S) (hk:S.ok) (hi:i<S.txs.length) (s:Shp) (hs:s.ok) :
  Calls Tryz.prog 107 #[ptr y.sb,ptr (y.xb i),shpV s] w fun e w'=>e=.returned (.tuple #[.int .i64 ((S.layR i s).2.1:Nat),.int .i64 (S.layR i s).2.2])∧Lft y (S.layR i s).1 o w w':=by
 have hB:Below w.heap.size w (w.alloc (.cells #[.int .i64 s.p,.int .i64 s.d,.bool s.weak,.bool s.final] 93)).drew:=bdrew (balloc (bsame w) _);have HA:=s_alloc (h.below hB) hk s hs;have h1:=Stt.ok_alloc hk hs;have HL:=(fun w' o' (hw:StIn w' o' y { S with H:=(S.H.allocR s).1 })=>s_loghold hw h1 hi (S.H.allocR s).2.1 0)
 have HW:=(fun w' o' (hw:StIn w' o' y (({ S with H:=(S.H.allocR s).1 }:Stt).holdLR i (S.H.allocR s).2.1 0).1)=>own_in hw (Stt.ok_holdL h1 hi _ 0 (by omega)) (x:=(({ S with H:=(S.H.allocR s).1 }:Stt).holdLR i (S.H.allocR s).2.1 0).1.t i) (Stt.t_get (by rw[holdL_len];exact hi)) (S.H.allocR s).2.1)
 have HF:=(fun w' o' (hw:StIn w' o' y { S with H:=(S.H.allocR s).1 })=>s_setfreed hw h1 (S.H.allocR s).2.1 true)
 have HX:=(fun w' o' (hw:StIn w' o' y { S with H:=(S.H.allocR s).1 })=>(hw.txs i _ (Stt.t_get hi)).cell)
 have hno:(S.H.allocR s).2.2≠0→(S.H.allocR s).1=S.H∧(S.H.allocR s).2=(0,100):=by
  unfold Hp.allocR;split
  ·intro h;exact absurd rfl h
  ·intro _;exact⟨rfl,rfl⟩
 unfold Stt.layR;generalize S.H.allocR s=r at *;obtain⟨H',at',er⟩:=r;simp only at HA HL HW HF HX hno ⊢;have hq0:(({ S with H:=H' }:Stt).holdLR i at' 0).2=false→(({ S with H:=H' }:Stt).holdLR i at' 0).1={ S with H:=H' }:=fun e=>by
  unfold Stt.holdLR at e ⊢;split at e
  ·cases e
  ·rename_i hm;rw[if_neg hm]
 have e3:({ (({ S with H:=H' }:Stt).holdLR i at' 0).1 with H:=((({ S with H:=H' }:Stt).holdLR i at' 0).1.H.setSecondR at' (2*i+1)).1 }:Stt)=(({ S with H:=H' }:Stt).holdLR i at' 0).1.ownR i at':=rfl;simp only[e3]at HW;generalize hS1:({ S with H:=H' }:Stt)=S1 at *;generalize (S1.holdLR i at' 0)=q at *;obtain⟨S2,ok⟩:=q;simp only at HL HW hq0 ⊢;generalize S2.ownR i at'=S3 at *;generalize hS4:({ S1 with H:=(S1.H.setFreedR at' true).1 }:Stt)=S4 at *;have hS4':({ S with H:=(H'.setFreedR at' true).1 }:Stt)=S4:=by rw[←hS4,←hS1]
 rw[hS4'];have HA':=Lib.hid HA;have HS4:=Lib.hid hS4';obtain⟨vq,vl,vm,jb,_⟩:=h.blk;have jb:=jb;unfold stCells at jb;have c:=jb.cell;have sb:=jb.lt;have HLh:=Lib.hid HL;have HWh:=Lib.hid HW;have HFh:=Lib.hid HF;have HXh:=Lib.hid HX;have hno':=Lib.hid hno;have hq':=Lib.hid hq0;have hS1':=Lib.hid hS1;have hbase:=Lib.hid (Stp.of_below (T:=stTag y) (o:=o) hB);have HI:=Lib.hid (h.below hB);clear HA HL HW HF HX hno hq0 hS1 hS4 hS4' e3 h hk h1 hB;by_cases her:er=0
 ·subst her
  rw[if_neg (by simp)]
  clear hno'
  cases ok
  ·rw[if_neg (by simp)]
   go_enter Tryz.func107,Tryz.ntmps107;go_upto_region 1 with fail;obtain⟨W,hW⟩:∃ W:World,W=w.alloc (.cells #[.int .i64 s.p,.int .i64 s.d,.bool s.weak,.bool s.final] 93):=⟨_,rfl⟩;have jW:=jb.alloc (.cells #[.int .i64 s.p,.int .i64 s.d,.bool s.weak,.bool s.final] 93);have jB:=Blk.new w #[.int .i64 s.p,.int .i64 s.d,.bool s.weak,.bool s.final] 93;rw[←hW]at HA' hbase jW jB ⊢;clear hW c sb HI;have c:=jW.cell;have cB:=jB.cell;go_region_with (first|(go_at_call 167;refine HA'.out.mono ?_;rintro e w1⟨rfl,o1,hS1,hs1⟩)|fail)
   all_goals
    obtain⟨vt,cx⟩:=HXh.out _ _ hS1;clear c cB;go_wp2_with fail;refine (HLh.out _ _ hS1).mono ?_
    rintro e w2⟨rfl,o2,hS2,hs2⟩
    rw[hq'.out (by simp)]at hS2
    clear cx;obtain⟨vq,vl,vm,jb2,_⟩:=hS2.blk;unfold stCells at jb2;have c2:=jb2.cell;go_wp2_with fail;refine (HFh.out _ _ hS2).mono ?_
    rintro e w3⟨rfl,hS3⟩
    rw[HS4.out]at hS3;go_wp2_with fail;go_ret2;exact⟨rfl,Lft.from (hbase.out.trans (hs1.trans hs2)) hS3⟩
  ·rw[if_pos rfl]
   go_enter Tryz.func107,Tryz.ntmps107;go_upto_region 1 with fail;obtain⟨W,hW⟩:∃ W:World,W=w.alloc (.cells #[.int .i64 s.p,.int .i64 s.d,.bool s.weak,.bool s.final] 93):=⟨_,rfl⟩;have jW:=jb.alloc (.cells #[.int .i64 s.p,.int .i64 s.d,.bool s.weak,.bool s.final] 93);have jB:=Blk.new w #[.int .i64 s.p,.int .i64 s.d,.bool s.weak,.bool s.final] 93;rw[←hW]at HA' hbase jW jB ⊢;clear hW c sb HI;have c:=jW.cell;have cB:=jB.cell;go_region_with (first|(go_at_call 167;refine HA'.out.mono ?_;rintro e w1⟨rfl,o1,hS1,hs1⟩)|fail)
   all_goals
    obtain⟨vt,cx⟩:=HXh.out _ _ hS1;clear c cB;go_wp2_with fail;refine (HLh.out _ _ hS1).mono ?_
    rintro e w2⟨rfl,o2,hS2,hs2⟩
    clear cx;go_wp2_with fail;refine (HWh.out _ _ hS2).mono ?_
    rintro e w3⟨rfl,hS3⟩
    go_wp2_with fail;go_ret2;exact⟨rfl,Lft.from (hbase.out.trans (hs1.trans hs2)) hS3⟩
 ·rw[if_pos her]
  obtain⟨rfl,e2⟩:=hno'.out her;injection e2 with e2 e3;subst e2 e3;have hSS:S1=S:=by rw[←hS1'.out]
  go_enter Tryz.func107,Tryz.ntmps107;go_upto_region 1 with fail;obtain⟨W,hW⟩:∃ W:World,W=w.alloc (.cells #[.int .i64 s.p,.int .i64 s.d,.bool s.weak,.bool s.final] 93):=⟨_,rfl⟩;have jW:=jb.alloc (.cells #[.int .i64 s.p,.int .i64 s.d,.bool s.weak,.bool s.final] 93);have jB:=Blk.new w #[.int .i64 s.p,.int .i64 s.d,.bool s.weak,.bool s.final] 93;rw[←hW]at HA' hbase jW jB ⊢;clear hW c sb HI;have c:=jW.cell;have cB:=jB.cell;replace hSS:=Lib.hid hSS;go_region_with (first|(go_at_call 167;refine HA'.out.mono ?_;rintro e w1⟨rfl,o1,hS1,hs1⟩)|fail)
  all_goals
   clear c cB;go_wp2_with fail;go_ret2;refine⟨rfl,o1,?_,hbase.out.trans hs1⟩;rw[←hSS.out];exact hS1
end
end Go.Proofs.YteehgedabdchcaaGreat
namespace Go.Proofs.YteehgedabdchcaaGreat
open Hp
def Hp.undo1 (H:Hp)(u:Un):Hp:=
 if u.kind=1 then (H.setPtrR u.pos u.i u.old.toNat).1 else if u.kind=2 then (H.setNumR u.pos u.i u.old).1 else if u.kind=3 then (H.setFreedR u.pos (decide (u.old≠0))).1 else H
def Hp.undoL (H:Hp)(us:List Un):Hp:=us.foldr (fun u H=>H.undo1 u) H
def Hp.rel1 (H:Hp)(z:Nat×Nat):Hp:=if z.2=0 then ((H.setSecondR z.1 (2*z.2)).1.setFreedR z.1 true).1 else (H.setSecondR z.1 (2*z.2)).1
def Hp.relL (H:Hp)(zs:List (Nat×Nat)):Hp:=zs.foldl Hp.rel1 H
def Stt.h (S:Stt)(H:Hp):Stt:={ S with H:=H }
def Stt.untake (S:Stt)(i:Nat):Stt:=if S.holder=(i:Int) then { S with queue:=(S.t i).took++S.queue,holder:=-1 } else S
def Stt.abort (S:Stt)(i:Nat):Stt:=((S.h ((S.H.undoL (S.t i).log.undos).relL (S.t i).log.holds)).untake i).tx i (S.t i).ended
theorem Stt.ok_undo1 {S:Stt}(hk:S.ok){u:Un}(h1:-9223372036854775808≤u.old∧u.old≤9223372036854775807):(S.h (S.H.undo1 u)).ok:=by
 unfold Hp.undo1;split
 ·exact Stt.ok_setPtr hk _ _ _
 ·split
  ·exact Stt.ok_setNum hk _ _ h1
  ·split
   ·exact Stt.ok_setFreed hk _ _
   ·exact hk
theorem Stt.ok_undoL {S:Stt}(hk:S.ok):∀ (us:List Un),(∀ u ∈ us,-9223372036854775808≤u.old∧u.old≤9223372036854775807)→(S.h (S.H.undoL us)).ok
 | [],_=>hk
 | u::us,h=>Stt.ok_undo1 (Stt.ok_undoL hk us fun z hz=>h z (.tail _ hz)) (h u (.head _))
theorem Stt.ok_com1 {S:Stt}(hk:S.ok)(p:Nat){v:Nat}(hv:v≤1099511627776):(S.h (S.H.setSecondR p (2*v)).1).ok:=Stt.ok_setSecond hk _ (by omega) fun h=>by omega
theorem Stt.ok_rel1 {S:Stt}(hk:S.ok){z:Nat×Nat}(hz:z.2≤1099511627776):(S.h (S.H.rel1 z)).ok:=by
 have h1:(S.h (S.H.setSecondR z.1 (2*z.2)).1).ok:=Stt.ok_setSecond hk _ (by omega) fun h=>by omega
 unfold Hp.rel1;split
 ·exact Stt.ok_setFreed h1 _ _
 ·exact h1
theorem Stt.ok_relL:∀ (zs:List (Nat×Nat)){S:Stt},S.ok→(∀ z ∈ zs,z.2≤1099511627776)→(S.h (S.H.relL zs)).ok
 | [],_,hk,_=>hk
 | z::zs,S,hk,h=>Stt.ok_relL zs (S:=S.h (S.H.rel1 z)) (Stt.ok_rel1 hk (h z (.head _))) fun x hx=>h x (.tail _ hx)
theorem relL_snoc (H:Hp)(zs:List (Nat×Nat))(z:Nat×Nat):H.relL (zs++[z])=(H.relL zs).rel1 z:=by unfold Hp.relL;rw[List.foldl_append];rfl
theorem tookN_ge:∀ (l:List Tx)(i:Nat)(x:Tx),l[i]?=some x→x.took.length≤tookN l
 | [],i,x,h=>by simp at h
 | q::l,0,x,h=>by simp at h;subst h;simp[tookN]
 | q::l,i+1,x,h=>by have:=tookN_ge l i x (by simpa using h);simp[tookN];omega
theorem Stt.ok_ended {S:Stt}(hk:S.ok){i:Nat}(hi:i<S.txs.length){q:List (Nat×Nat)}{z:Int}{v:Nat}(hq:q.length≤S.queue.length+(S.t i).took.length)(hz:-1≤z∧z≤8)(hv:v≤S.now):Stt.ok (({ S with queue:=q,holder:=z,version:=v }:Stt).tx i (S.t i).ended):=by
 have hx:=Stt.t_get hi;have hl:=liveN_set S.txs i (S.t i).ended _ hx;have ht:=tookN_set S.txs i (S.t i).ended _ hx;have hmem:∀ z ∈ S.txs.set i (S.t i).ended,z ∈ S.txs∨z=(S.t i).ended:=fun z hz=>List.mem_or_eq_of_mem_set hz
 have hl2:liveN (S.txs.set i (S.t i).ended)≤liveN S.txs:=by
  have:(if (S.t i).ended.live=true then 1 else 0)=0:=rfl
  rw[this]at hl;omega
 have e0:(S.t i).ended.took=[]:=rfl;rw[e0]at ht;simp only[List.length_nil]at ht;refine⟨hk.H,hk.n2,by show S.now+liveN (S.txs.set i (S.t i).ended)≤S.most;have:=hk.lv;omega,by simpa [Stt.tx] using hk.t1,by simpa [Stt.tx] using hk.t8,fun z hz=>?_,fun z hz=>?_,hv,hz,hk.sc,hk.so,by show q.length+tookN (S.txs.set i (S.t i).ended)≤S.next;have:=hk.qu;omega,hk.nx,hk.cm,fun z hz=>?_,hk.ph⟩
 ·rcases hmem z hz with h|rfl
  ·exact hk.lg z h
  ·exact Lg.fit_reset (hk.lgt hi)
 ·rcases hmem z hz with h|rfl
  ·exact hk.st z h
  ·exact hk.stt hi
 ·rcases hmem z hz with h|rfl
  ·exact hk.se z h
  ·exact hk.set hi
theorem Stt.ok_abort {S:Stt} (hk:S.ok) {i:Nat} (hi:i<S.txs.length):(S.abort i).ok:=by
 have hL:=hk.lgt hi;have h2:(S.h ((S.H.undoL (S.t i).log.undos).relL (S.t i).log.holds)).ok:=Stt.ok_relL _ (Stt.ok_undoL hk _ hL.un) hL.hv;unfold Stt.abort Stt.untake;split
 ·exact Stt.ok_ended (S:=S.h ((S.H.undoL (S.t i).log.undos).relL (S.t i).log.holds)) h2 (i:=i) hi (z:=-1) (v:=S.version) (by rw[List.length_append];show (S.t i).took.length+S.queue.length≤S.queue.length+(S.t i).took.length;omega) (by omega) hk.ve
 ·exact Stt.ok_ended (S:=S.h ((S.H.undoL (S.t i).log.undos).relL (S.t i).log.holds)) h2 (i:=i) hi (q:=S.queue) (z:=S.holder) (v:=S.version) (by show S.queue.length≤S.queue.length+_;omega) hk.ho hk.ve
theorem abort_len (S:Stt)(i:Nat):(S.abort i).txs.length=S.txs.length:=by
 unfold Stt.abort Stt.untake;split<;>simp[Stt.tx,Stt.h]
def Hp.now (H:Hp)(p:Nat):Nat:=match lko H.old p with|some (_,some q)=>q|_=>p
theorem lko_goneTo (l:List (Nat×Ob×Option Nat))(p q r:Nat){ob:Ob}{g:Nat}(h:lko l r=some (ob,some g))(hp:lko l p=none∨(∃ z,lko l p=some (z,none))):lko (goneTo l p q) r=some (ob,some g):=by
 rw[lko_gone];split
 ·rename_i e;subst e
  rcases hp with hp|⟨z,hp⟩
  ·rw[hp]at h;cases h
  ·rw[hp]at h;cases h
 ·exact h
theorem moved_gone_keeps {H:Hp}(p:Nat){r:Nat}{ob:Ob}{g:Nat}(h:lko H.old r=some (ob,some g)):lko (H.moved p).1.old r=some (ob,some g):=by
 unfold Hp.moved;split
 ·exact h
 ·exact h
 ·rename_i z hp
  exact lko_goneTo _ _ _ _ h (.inr ⟨_,hp⟩)
theorem moved_none_keeps {H:Hp}(p:Nat){r:Nat}(h:lko H.old r=none):lko (H.moved p).1.old r=none:=by
 unfold Hp.moved;split
 ·exact h
 ·exact h
 ·rename_i z hp
  show lko (goneTo H.old p H.top) r=none;rw[lko_gone];split
  ·rename_i e;subst e;rw[h];rfl
  ·exact h
theorem moved_now {H:Hp}(p:Nat):(lko (H.moved p).1.old p=none∧(H.moved p).2=p)∨∃ ob,lko (H.moved p).1.old p=some (ob,some (H.moved p).2):=by
 unfold Hp.moved;split
 ·rename_i h;exact .inl ⟨h,rfl⟩
 ·rename_i ob q h;exact .inr ⟨ob,h⟩
 ·rename_i ob h
  refine .inr ⟨ob,?_⟩;show lko (goneTo H.old p H.top) p=some (ob,some H.top);rw[lko_gone,if_pos rfl,h];rfl
theorem movedL_keeps:∀ (l:List Nat){H:Hp}{r:Nat}{ob:Ob}{g:Nat},lko H.old r=some (ob,some g)→lko (H.movedL l).1.old r=some (ob,some g)
 | [],_,_,_,_,h=>h
 | p::l,_,_,_,_,h=>movedL_keeps l (moved_gone_keeps p h)
theorem movedL_none:∀ (l:List Nat){H:Hp}{r:Nat},lko H.old r=none→lko (H.movedL l).1.old r=none
 | [],_,_,h=>h
 | p::l,_,_,h=>movedL_none l (moved_none_keeps p h)
theorem movedL_now:∀ (l:List Nat)(H:Hp),(H.movedL l).2=l.map (H.movedL l).1.now
 | [],_=>rfl
 | p::l,H=>by
  show (H.moved p).2::((H.moved p).1.movedL l).2=((H.moved p).1.movedL l).1.now p::l.map ((H.moved p).1.movedL l).1.now;rw[movedL_now l (H.moved p).1];congr 1;unfold Hp.now;rcases moved_now (H:=H) p with⟨h1,h2⟩|⟨ob,h1⟩
  ·rw[movedL_none l h1,h2]
  ·rw[movedL_keeps l h1]
theorem now_bd {H:Hp}(hk:H.ok){p:Nat}{b:Nat}(hb:131072≤b)(hp:p≤b):H.now p≤b:=by
 unfold Hp.now;split
 ·rename_i ob q h;have:=(hk.gone _ (lko_mem h) q rfl).2;omega
 ·exact hp
def Un.places (u:Un):List Nat:=if u.kind=1 then [u.pos,u.old.toNat] else [u.pos]
def Lg.roots (L:Lg):List Nat:=L.reads++L.keeps++L.holds.map (·.1)++L.undos.flatMap Un.places
def at1 (g:Nat→Nat)(l:List (Nat×Nat)):List (Nat×Nat):=l.map fun z=>(g z.1,z.2)
def Un.at' (g:Nat→Nat)(u:Un):Un:=if u.kind=1 then { u with pos:=g u.pos,old:=g u.old.toNat } else { u with pos:=g u.pos }
def Lg.at' (g:Nat→Nat)(L:Lg):Lg:={ L with reads:=L.reads.map g,keeps:=L.keeps.map g,holds:=at1 g L.holds,undos:=L.undos.map (Un.at' g) }
def Tx.at' (g:Nat→Nat)(x:Tx):Tx:={ x with log:=x.log.at' g,took:=at1 g x.took }
def Tx.places (x:Tx):List Nat:=x.log.roots++x.took.map (·.1)
def Stt.places (S:Stt)(roots:List Nat):List Nat:=roots++S.queue.map (·.1)++S.txs.flatMap Tx.places
def Stt.at' (S:Stt)(g:Nat→Nat):Stt:={ S with txs:=S.txs.map (Tx.at' g),queue:=at1 g S.queue }
def Stt.begun (S:Stt)(roots:List Nat):Stt:={ S with H:=(S.H.flip.movedL (S.places roots)).1,ph:=1 }
def Stt.may (S:Stt)(roots:List Nat):Bool:=decide (S.ph=0)&&roots.all fun r=>decide (r=0)||(lk S.H.cur r).isSome
def Stt.collectR (S:Stt)(roots:List Nat):Stt×List Nat×Bool:=
 if S.may roots=true then ((S.begun roots).at' (S.begun roots).H.now,roots.map (S.begun roots).H.now,true) else (S,[],false)
theorem Lg.fit_at {L:Lg} (h:L.fit) {H:Hp} (hk:H.ok):(L.at' H.now).fit:=by
 refine⟨⟨h.ok.mr,h.ok.mu,by simpa [Lg.at'] using h.ok.r,by simpa [Lg.at'] using h.ok.k,by simpa [Lg.at',at1] using h.ok.h,by simpa [Lg.at'] using h.ok.u⟩,fun z hz=>?_,fun u hu=>?_,fun u hu=>?_⟩
 ·obtain⟨y,hy,rfl⟩:=List.mem_map.1 (show z ∈ L.holds.map _ from hz)
  exact h.hv y hy
 ·obtain⟨y,hy,rfl⟩:=List.mem_map.1 (show u ∈ L.undos.map _ from hu)
  unfold Un.at';split
  ·have h1:=h.un y hy
   have h2:=now_bd hk (p:=y.old.toNat) (b:=9223372036854775807) (by omega) (by omega)
   simp only;omega
  ·exact h.un y hy
 ·obtain⟨y,hy,rfl⟩:=List.mem_map.1 (show u ∈ L.undos.map _ from hu)
  unfold Un.at';split
  ·intro _;simp only;omega
  ·intro h1;exact h.kd y hy h1
theorem tookN_at (g:Nat→Nat):∀ (l:List Tx),tookN (l.map (Tx.at' g))=tookN l
 | []=>rfl
 | x::l=>by simp[tookN,tookN_at g l,Tx.at',at1]
theorem liveN_at (g:Nat→Nat):∀ (l:List Tx),liveN (l.map (Tx.at' g))=liveN l
 | []=>rfl
 | x::l=>by rw[List.map_cons,liveN_cons,liveN_cons,liveN_at g l];rfl
theorem Stt.ok_at {S:Stt}(hk:S.ok){H:Hp}(hH:H.ok):(S.at' H.now).ok:=by
 refine⟨hk.H,hk.n2,by show S.now+liveN (S.txs.map _)≤S.most;rw[liveN_at];exact hk.lv,by simpa [Stt.at'] using hk.t1,by simpa [Stt.at'] using hk.t8,fun x hx=>?_,fun x hx=>?_,hk.ve,hk.ho,hk.sc,hk.so,?_,hk.nx,hk.cm,fun x hx=>?_,hk.ph⟩
 ·obtain⟨z,hz,rfl⟩:=List.mem_map.1 (show x ∈ S.txs.map _ from hx)
  exact Lg.fit_at (hk.lg z hz) hH
 ·obtain⟨z,hz,rfl⟩:=List.mem_map.1 (show x ∈ S.txs.map _ from hx)
  exact hk.st z hz
 ·show (at1 H.now S.queue).length+tookN (S.txs.map _)≤S.next
  rw[tookN_at];simpa [at1] using hk.qu
 ·obtain⟨z,hz,rfl⟩:=List.mem_map.1 (show x ∈ S.txs.map _ from hx)
  exact hk.se z hz
theorem Secs.flip {H:Hp}(h:Secs H):Secs H.flip:=
 ⟨fun x hx=>(by cases hx),fun x hx=>by obtain⟨z,hz,rfl⟩:=List.mem_map.1 (show x ∈ H.cur.map _ from hx);exact h.1 z hz⟩
theorem Stt.ok_begun {S:Stt}(hk:S.ok)(h0:S.ph=0)(roots:List Nat):(S.begun roots).ok:=by
 have hm:S.H.moving=false:=hk.ph.2.1 h0;have hf:=Hp.flip_wf hk.H hm;have hs:=movedL_same (S.places roots) S.H.flip;have hse:=Secs.movedL (S.places roots) hk.secs.flip;refine⟨Hp.movedL_wf _ hf,hk.n2,hk.lv,hk.t1,hk.t8,hk.lg,hk.st,hk.ve,hk.ho,hse.1,hse.2,hk.qu,?_,hk.cm,hk.se,⟨by show 1≤2;omega,?_⟩⟩
 ·show S.next+(S.H.flip.movedL (S.places roots)).1.final.length≤(S.H.flip.movedL (S.places roots)).1.serial
  rw[hs.2.2.2.2.2.2.1,hs.2.2.2.2.1];exact hk.nx
 ·show 1=0↔(S.H.flip.movedL (S.places roots)).1.moving=false
  rw[hs.2.2.1];exact⟨fun h=>by omega,fun h=>by cases h⟩
theorem may_ph {S:Stt}{roots:List Nat}(h:S.may roots=true):S.ph=0:=by unfold Stt.may at h;simp only[Bool.and_eq_true,decide_eq_true_eq]at h;exact h.1
theorem ok_collectR {S:Stt}(hk:S.ok)(roots:List Nat):(S.collectR roots).1.ok:=by
 unfold Stt.collectR;split
 ·rename_i h;exact Stt.ok_at (Stt.ok_begun hk (may_ph h) roots) (Stt.ok_begun hk (may_ph h) roots).H.ok
 ·exact hk
def Stt.cycR (S:Stt):Stt×List Nat×Bool:=
 if S.ph=0 then (S,[],false) else if S.H.scan1.2=true then (S.h S.H.scan1.1,[],false)
 else if S.ph=1 then ({ S with H:=S.H.finals.1,ph:=2 },S.H.finals.2,false)
 else ({ S with H:=S.H.drop.1,ph:=0,lost:=S.lost++S.H.drop.2.1 },[],true)
def Hp.freedAt (H:Hp)(p:Nat):Bool:=match lk H.cur p with|some ob=>ob.freed|none=>false
def Stt.ready1 (S:Stt)(p:Nat):Stt:=
 if S.H.freedAt p=true∨100≤S.queue.length then S else { S with queue:=S.queue++[(p,S.next)],came:=S.came++[(S.H.serR p).1],next:=S.next+1 }
def Stt.readyL (S:Stt)(l:List Nat):Stt:=l.foldl Stt.ready1 S
def Stt.stepR (S:Stt):Stt×Bool:=(S.cycR.1.readyL S.cycR.2.1,S.cycR.2.2)
theorem readyL_snoc (S:Stt)(l:List Nat)(p:Nat):S.readyL (l++[p])=(S.readyL l).ready1 p:=by unfold Stt.readyL;rw[List.foldl_append];rfl
theorem Secs.scan1 {H:Hp}(h:Secs H):Secs H.scan1.1:=by
 unfold Hp.scan1;split
 ·exact h
 ·split
  ·exact h
  ·rename_i ob hp
   split
   ·exact h
   ·have h2:=Secs.movedL ob.ptrs h
    exact⟨up_sec (P:=SecOk) h2.1 (h.1 _ (lk_mem hp)),h2.2⟩
theorem Secs.drop1 {H:Hp}(h:Secs H)(p:Nat):Secs (H.drop1 p).1:=by
 unfold Hp.drop1;split
 ·exact h
 ·rename_i ob hp
  have ho:=h.1 _ (lk_mem hp);split
  ·exact h
  ·split
   ·exact h
   ·exact⟨up_sec (P:=SecOk) h.1 ho,h.2⟩
   ·exact⟨up_sec (P:=SecOk) h.1 ho,h.2⟩
theorem Secs.dropL:∀ (l:List Nat){H:Hp},Secs H→Secs (H.dropL l).1
 | [],_,h=>h
 | p::l,_,h=>Secs.dropL l (h.drop1 p)
theorem scan1_same (H:Hp):H.scan1.1.moving=H.moving∧H.scan1.1.final=H.final∧H.scan1.1.serial=H.serial∧H.scan1.1.weak=H.weak:=by
 unfold Hp.scan1;split
 ·exact⟨rfl,rfl,rfl,rfl⟩
 ·split
  ·exact⟨rfl,rfl,rfl,rfl⟩
  ·rename_i ob hp
   split
   ·exact⟨rfl,rfl,rfl,rfl⟩
   ·have h:=movedL_same ob.ptrs H
    exact⟨h.2.2.1,h.2.2.2.2.2.2.1,h.2.2.2.2.1,h.2.2.2.2.2.1⟩
theorem drop1_same2 (H:Hp)(p:Nat):(H.drop1 p).1.final=H.final∧(H.drop1 p).1.serial=H.serial:=by
 unfold Hp.drop1;split
 ·exact⟨rfl,rfl⟩
 ·split
  ·exact⟨rfl,rfl⟩
  ·split<;>exact⟨rfl,rfl⟩
theorem dropL_same2:∀ (l:List Nat)(H:Hp),(H.dropL l).1.final=H.final∧(H.dropL l).1.serial=H.serial
 | [],_=>⟨rfl,rfl⟩
 | p::l,H=>by
  have h1:=drop1_same2 H p;have h2:=dropL_same2 l (H.drop1 p).1;exact⟨h2.1.trans h1.1,h2.2.trans h1.2⟩
theorem ok_cycR {S:Stt}(hk:S.ok):S.cycR.1.ok∧S.cycR.1.next+S.cycR.1.H.final.length+S.cycR.2.1.length≤S.cycR.1.H.serial:=by
 have hnx:=hk.nx;unfold Stt.cycR;split
 ·exact⟨hk,by simpa using hnx⟩
 ·rename_i hph
  have hmv:S.H.moving=true:=by
   cases hm:S.H.moving with
   | true=>rfl
   | false=>exact absurd (hk.ph.2.2 hm) hph
  split
  ·have h:=scan1_same S.H
   refine⟨Stt.ok_h hk (Hp.scan1_wf hk.H) hk.secs.scan1.1 hk.secs.scan1.2 (by rw[h.2.1,h.2.2.1];exact hnx) h.1,?_⟩
   show S.next+S.H.scan1.1.final.length+0≤S.H.scan1.1.serial;rw[h.2.1,h.2.2.1];omega
  ·split
   ·have e:S.H.finals=Hp.movedL { S.H with final:=S.H.stay S.H.final } (S.H.gone' S.H.final):=by unfold Hp.finals;rw[if_neg (by rw[hmv];simp)]
    have hs:=movedL_same (S.H.gone' S.H.final) { S.H with final:=S.H.stay S.H.final };have hl:=movedL_len (S.H.gone' S.H.final) { S.H with final:=S.H.stay S.H.final };have hst:=stay_len S.H S.H.final;have hse:Secs (Hp.movedL { S.H with final:=S.H.stay S.H.final } (S.H.gone' S.H.final)).1:=Secs.movedL _ ⟨hk.secs.1,hk.secs.2⟩;have hw:=Hp.finals_wf hk.H;rw[e]at hw ⊢;have e1:=hs.2.2.2.2.2.2.1;have e2:=hs.2.2.2.2.1;have e3:=hs.2.2.1;refine⟨⟨hw,hk.n2,hk.lv,hk.t1,hk.t8,hk.lg,hk.st,hk.ve,hk.ho,hse.1,hse.2,hk.qu,?_,hk.cm,hk.se,⟨by show 2≤2;omega,?_⟩⟩,?_⟩
    ·simp only[e1,e2];omega
    ·show 2=0↔_
     exact⟨fun h=>by omega,fun h=>by
      have e4:(Hp.movedL { S.H with final:=S.H.stay S.H.final } (S.H.gone' S.H.final)).1.moving=false:=h;rw[e3]at e4;exact absurd (e4:S.H.moving=false) (by rw[hmv];simp)⟩
    ·simp only[e1,e2,hl];omega
   ·rename_i h1 h2
    have hsc:S.H.scan=S.H.top:=by
     refine Classical.byContradiction fun hne=>h1 ?_
     obtain⟨ob,hob,_⟩:=scan_ob hk.H hmv hne;unfold Hp.scan1;rw[if_neg (by rw[hmv];simp[hne]),hob]
     simp only;split<;>rfl
    have e:S.H.drop=((S.H.settled.dropL S.H.settled.weak).1.rest,(S.H.settled.dropL S.H.settled.weak).2,true):=by
     unfold Hp.drop;rw[if_neg (by rw[hmv];simp[hsc])]
    have hd:=dropL_same2 S.H.settled.weak S.H.settled;have hw:=Hp.drop_wf hk.H;have hst:=stay_len S.H S.H.final;have hse:Secs (S.H.settled.dropL S.H.settled.weak).1:=Secs.dropL _ (H:=S.H.settled) ⟨hk.secs.1,hk.secs.2⟩;rw[e]at hw ⊢;have e1:(S.H.settled.dropL S.H.settled.weak).1.rest.final=S.H.stay S.H.final:=hd.1;have e2:(S.H.settled.dropL S.H.settled.weak).1.rest.serial=S.H.serial:=hd.2;refine⟨⟨hw,hk.n2,hk.lv,hk.t1,hk.t8,hk.lg,hk.st,hk.ve,hk.ho,hse.1,fun x hx=>(by cases hx),hk.qu,?_,hk.cm,hk.se,⟨by show 0≤2;omega,?_⟩⟩,?_⟩
    ·simp only[e1,e2];omega
    ·show 0=0↔_
     exact⟨fun _=>rfl,fun _=>rfl⟩
    ·simp only[e1,e2,List.length_nil];omega
theorem ok_ready1 {S:Stt}(hk:S.ok)(p:Nat){k:Nat}(h:S.next+S.H.final.length+(k+1)≤S.H.serial):(S.ready1 p).ok∧(S.ready1 p).next+(S.ready1 p).H.final.length+k≤(S.ready1 p).H.serial∧(S.ready1 p).H=S.H∧(S.ready1 p).txs=S.txs:=by
 unfold Stt.ready1;split
 ·exact⟨hk,by omega,rfl,rfl⟩
 ·refine⟨⟨hk.H,hk.n2,hk.lv,hk.t1,hk.t8,hk.lg,hk.st,hk.ve,hk.ho,hk.sc,hk.so,?_,?_,?_,fun x hx=>Nat.le_succ_of_le (hk.se x hx),hk.ph⟩,?_,rfl,rfl⟩
  ·have:=hk.qu;simp only[List.length_append,List.length_singleton];omega
  ·simp only;omega
  ·have:=hk.cm;simp only[List.length_append,List.length_singleton];omega
  ·simp only;omega
theorem ok_readyL:∀ (l:List Nat){S:Stt},S.ok→S.next+S.H.final.length+l.length≤S.H.serial→(S.readyL l).ok∧(S.readyL l).txs=S.txs∧(S.readyL l).H=S.H
 | [],_,hk,_=>⟨hk,rfl,rfl⟩
 | p::l,S,hk,h=>by
  obtain⟨h1,h2,h3,h4⟩:=ok_ready1 hk p (k:=l.length) (by simpa using h)
  obtain⟨h5,h6,h7⟩:=ok_readyL l h1 h2;exact⟨h5,h6.trans h4,h7.trans h3⟩
end Go.Proofs.YteehgedabdchcaaGreat
namespace Go.Proofs.YteehgedabdchcaaGreat
open Go.RowKit Hp
def putH:List (Nat×Nat)→List Nat→List (Nat×Nat)
 | [],_=>[]
 | z::zs,l=>(l.headD 0,z.2)::putH zs l.tail
def putU:List Un→List Nat→List Un
 | [],_=>[]
 | u::us,l=>if u.kind=1 then { u with pos:=l.headD 0,old:=((l.tail.headD 0:Nat):Int) }::putU us l.tail.tail else { u with pos:=l.headD 0 }::putU us l.tail
def Lg.put (L:Lg)(l:List Nat):Lg:=
 { L with reads:=l.take L.reads.length,keeps:=(l.drop L.reads.length).take L.keeps.length,holds:=putH L.holds (l.drop (L.reads.length+L.keeps.length)),undos:=putU L.undos (l.drop (L.reads.length+L.keeps.length+L.holds.length)) }
theorem putH_len:∀ (zs:List (Nat×Nat))(l:List Nat),(putH zs l).length=zs.length
 | [],_=>rfl
 | z::zs,l=>by simp[putH,putH_len zs]
theorem putU_len:∀ (us:List Un)(l:List Nat),(putU us l).length=us.length
 | [],_=>rfl
 | u::us,l=>by unfold putU;split<;>simp[putU_len us]
theorem putH_map (g:Nat→Nat):∀ (zs:List (Nat×Nat))(l:List Nat),putH zs ((zs.map (·.1)).map g++l)=at1 g zs
 | [],_=>rfl
 | z::zs,l=>by
  show ((g z.1::((zs.map (·.1)).map g++l)).headD 0,z.2)::putH zs (g z.1::((zs.map (·.1)).map g++l)).tail=(g z.1,z.2)::at1 g zs;simp only[List.headD_cons,List.tail_cons,putH_map g zs l]
theorem putU_map (g:Nat→Nat):∀ (us:List Un),putU us ((us.flatMap Un.places).map g)=us.map (Un.at' g)
 | []=>rfl
 | u::us=>by
  rw[List.flatMap_cons,List.map_append,List.map_cons];unfold putU Un.places Un.at';split
  ·simp only[List.map_cons,List.map_nil,List.cons_append,List.nil_append,List.headD_cons,List.tail_cons]
   exact congrArg _ (putU_map g us)
  ·simp only[List.map_cons,List.map_nil,List.cons_append,List.nil_append,List.headD_cons,List.tail_cons]
   exact congrArg _ (putU_map g us)
theorem put_map (L:Lg)(g:Nat→Nat):L.put (L.roots.map g)=L.at' g:=by
 unfold Lg.put Lg.at' Lg.roots;simp only[List.map_append];have e1:(L.reads.map g++L.keeps.map g++(L.holds.map (·.1)).map g++(L.undos.flatMap Un.places).map g).take L.reads.length=L.reads.map g:=by
  rw[List.append_assoc,List.append_assoc,List.take_left' (by simp)]
 have e2:(L.reads.map g++L.keeps.map g++(L.holds.map (·.1)).map g++(L.undos.flatMap Un.places).map g).drop L.reads.length=L.keeps.map g++((L.holds.map (·.1)).map g++(L.undos.flatMap Un.places).map g):=by
  rw[List.append_assoc,List.append_assoc,List.drop_left' (by simp)]
 have e3:(L.reads.map g++L.keeps.map g++(L.holds.map (·.1)).map g++(L.undos.flatMap Un.places).map g).drop (L.reads.length+L.keeps.length)=(L.holds.map (·.1)).map g++(L.undos.flatMap Un.places).map g:=by
  rw[List.append_assoc,List.drop_left' (by simp)]
 have e4:(L.reads.map g++L.keeps.map g++(L.holds.map (·.1)).map g++(L.undos.flatMap Un.places).map g).drop (L.reads.length+L.keeps.length+L.holds.length)=(L.undos.flatMap Un.places).map g:=by
  rw[List.drop_left' (by simp;omega)]
 rw[e1,e2,e3,e4,putH_map,putU_map,List.take_left' (by simp)]
theorem put_roots {L:Lg}(h:L.fit):L.put L.roots=L:=by
 have h1:=put_map L id;rw[List.map_id]at h1;rw[h1];unfold Lg.at';have e1:at1 id L.holds=L.holds:=by unfold at1;simp
 have e2:L.undos.map (Un.at' id)=L.undos:=by
  refine (List.map_congr_left fun u hu=>?_).trans (List.map_id _)
  unfold Un.at';split
  ·rename_i hk
   have h0:=h.kd u hu hk;obtain⟨kd,ps,i,od⟩:=u;simp only at h0 hk ⊢;show Un.mk kd ps i ((od.toNat:Nat):Int)=Un.mk kd ps i od;rw[Int.toNat_of_nonneg h0]
  ·rfl
 rw[e1,e2,List.map_id,List.map_id]
def sAddr (g:Nat)(s:Nat)(j:Nat):Addr:=⟨g,j*s,none⟩
def rowB (v:Value):Nat:=match v with|.slice (some a) _ _=>a.block|_=>0
def uAddr (g:Nat):Nat→List Un→List Addr
 | _,[]=>[]
 | j,u::us=>if u.kind=1 then⟨g,j*4+1,none⟩::⟨g,j*4+3,none⟩::uAddr g (j+1) us else⟨g,j*4+1,none⟩::uAddr g (j+1) us
def lAddr (vr vk vh vu:Value)(L:Lg):List Addr:=
 (List.range L.reads.length).map (sAddr (rowB vr) 1)++(List.range L.keeps.length).map (sAddr (rowB vk) 1)++(List.range L.holds.length).map (sAddr (rowB vh) 2)++uAddr (rowB vu) 0 L.undos
theorem uAddr_len (g:Nat):∀ (us:List Un)(j:Nat),(uAddr g j us).length=(us.flatMap Un.places).length
 | [],_=>rfl
 | u::us,j=>by
  rw[List.flatMap_cons,List.length_append];have ih:=uAddr_len g us (j+1);by_cases hk:u.kind=1
  ·have hp:u.places.length=2:=by unfold Un.places;rw[if_pos hk];rfl
   unfold uAddr;rw[if_pos hk];simp only[List.length_cons];omega
  ·have hp:u.places.length=1:=by unfold Un.places;rw[if_neg hk];rfl
   unfold uAddr;rw[if_neg hk];simp only[List.length_cons];omega
theorem lAddr_len (vr vk vh vu:Value)(L:Lg):(lAddr vr vk vh vu L).length=L.roots.length:=by
 unfold lAddr Lg.roots;simp only[List.length_append,List.length_map,List.length_range,uAddr_len]
theorem putH_set:∀ (zs:List (Nat×Nat))(l:List Nat)(i x:Nat),i<zs.length→zs.length≤l.length →
  hcells (putH zs (l.set i x))=(hcells (putH zs l)).set (i*2) (nv x)∧(hcells (putH zs l))[i*2]?=(l[i]?).map nv
 | [],_,_,_,h,_=>by simp at h
 | z::zs,[],_,_,_,h=>by simp at h
 | z::zs,a::l,0,x,_,_=>by simp[putH,hcells]
 | z::zs,a::l,i+1,x,h,hl=>by
  obtain⟨h1,h2⟩:=putH_set zs l i x (by simpa using h) (by simpa using hl)
  have e:(i+1)*2=i*2+1+1:=by omega
  simp only[List.set_cons_succ,putH,List.headD_cons,List.tail_cons,hcells,e,h1,List.getElem?_cons_succ,h2,and_self]
theorem putH_ge:∀ (zs:List (Nat×Nat))(l:List Nat)(i x:Nat),zs.length≤i→putH zs (l.set i x)=putH zs l
 | [],_,_,_,_=>rfl
 | z::zs,l,i,x,h=>by
  obtain⟨j,rfl⟩:∃ j,i=j+1:=⟨i-1,by simp only[List.length_cons]at h;omega⟩
  cases l with
  | nil=>rfl
  | cons a l=>simp only[List.set_cons_succ,putH,List.headD_cons,List.tail_cons];rw[putH_ge zs l j x (by simp only[List.length_cons]at h;omega)]
theorem putU_set (g:Nat):∀ (us:List Un)(j:Nat)(l:List Nat)(i x:Nat)(a:Addr),(uAddr g j us)[i]?=some a→(us.flatMap Un.places).length≤l.length →
  ∃ c,a=⟨g,j*4+c,none⟩∧ucells (putU us (l.set i x))=(ucells (putU us l)).set c (nv x)∧(ucells (putU us l))[c]?=(l[i]?).map nv
 | [],_,_,_,_,_,h,_=>by simp[uAddr]at h
 | u::us,j,l,i,x,a,h,hl=>by
  rw[List.flatMap_cons,List.length_append]at hl;by_cases hk:u.kind=1
  ·have hp:u.places.length=2:=by unfold Un.places;rw[if_pos hk];rfl
   rw[hp]at hl;unfold uAddr at h;rw[if_pos hk]at h;match l,hl with
   | [],hl=>simp at hl
   | [q],hl=>simp only[List.length_cons,List.length_nil]at hl;omega
   | q0::q1::l,hl =>
    match i,h with
    | 0,h =>
     simp at h;subst h;refine⟨1,rfl,?_,?_⟩<;>(unfold putU;rw[if_pos hk];first|(rw[if_pos hk];simp[ucells])|simp[ucells])
    | 1,h =>
     simp at h;subst h;refine⟨3,rfl,?_,?_⟩<;>(unfold putU;rw[if_pos hk];first|(rw[if_pos hk];simp[ucells,nv])|simp[ucells,nv])
    | i+2,h =>
     simp only[List.getElem?_cons_succ]at h;obtain⟨c,h1,h2,h3⟩:=putU_set g us (j+1) l i x a h (by simp only[List.length_cons]at hl;omega)
     refine⟨c+4,by rw[h1];congr 1;omega,?_,?_⟩
     ·simp only[List.set_cons_succ]
      unfold putU;rw[if_pos hk,if_pos hk];simp only[List.headD_cons,List.tail_cons,ucells,List.set_cons_succ,h2]
     ·unfold putU
      rw[if_pos hk];simp only[List.headD_cons,List.tail_cons,ucells,List.getElem?_cons_succ,h3]
  ·have hp:u.places.length=1:=by unfold Un.places;rw[if_neg hk];rfl
   rw[hp]at hl;unfold uAddr at h;rw[if_neg hk]at h;match l,hl with
   | [],hl=>simp only[List.length_nil]at hl;omega
   | q0::l,hl =>
    match i,h with
    | 0,h =>
     simp at h;subst h;refine⟨1,rfl,?_,?_⟩<;>(unfold putU;rw[if_neg hk];first|(rw[if_neg hk];simp[ucells])|simp[ucells])
    | i+1,h =>
     simp only[List.getElem?_cons_succ]at h;obtain⟨c,h1,h2,h3⟩:=putU_set g us (j+1) l i x a h (by simp only[List.length_cons]at hl;omega)
     refine⟨c+4,by rw[h1];congr 1;omega,?_,?_⟩
     ·simp only[List.set_cons_succ]
      unfold putU;rw[if_neg hk,if_neg hk];simp only[List.headD_cons,List.tail_cons,ucells,List.set_cons_succ,h2]
     ·unfold putU
      rw[if_neg hk];simp only[List.headD_cons,List.tail_cons,ucells,List.getElem?_cons_succ,h3]
theorem uAddr_lt {g j:Nat}{us:List Un}{i:Nat}{a:Addr}(h:(uAddr g j us)[i]?=some a):i<(us.flatMap Un.places).length:=by
 rw[←uAddr_len g us j];exact (List.getElem?_eq_some_iff.1 h).1
section
variable {w : World} {o : Own} {id k b : Nat} {L : Lg} {vr vk vh vu : Value}
theorem row_form {w:World}{o:Own}{t:Tag}{e:TypeId}{size:Nat}{v:Value}{n:Nat}{xs:List Value}(h:Row w o t e size v n xs)(hn:0<n) :
  ∃ cap,v=.slice (some ⟨rowB v,0,none⟩) n cap∧o (rowB v)=t∧rowB v<w.heap.size:=by
 rcases h.own.2 with ⟨rfl,h2⟩|⟨g,cap,cur,rfl,_,hg,hn,hc,_⟩
 ·omega
 ·exact⟨cap,rfl,h.tag g rfl,(Array.getElem?_eq_some_iff.1 hg).1⟩
theorem take_set' (q:List Nat)(n m x:Nat):(q.set m x).take n=(q.take n).set m x:=by
 rw[List.take_set]
theorem drop_set_lt (q:List Nat)(n m x:Nat)(h:m<n):(q.set m x).drop n=q.drop n:=by
 rw[List.drop_set,if_pos h]
theorem drop_set_ge (q:List Nat)(n m x:Nat)(h:n≤m):(q.set m x).drop n=(q.drop n).set (m-n) x:=by
 rw[List.drop_set,if_neg (by omega)]
theorem take_set_ge (q:List Nat)(n m x:Nat)(h:n≤m):(q.set m x).take n=q.take n:=by
 rw[List.take_set];exact List.set_eq_of_length_le (by simp;omega)
theorem lAddr_at (vr vk vh vu:Value)(L:Lg)(m:Nat)(a:Addr)(ha:(lAddr vr vk vh vu L)[m]?=some a) :
  (m<L.reads.length∧a=⟨rowB vr,m,none⟩)∨(L.reads.length≤m∧m<L.reads.length+L.keeps.length∧a=⟨rowB vk,m-L.reads.length,none⟩) ∨
  (L.reads.length+L.keeps.length≤m∧m<L.reads.length+L.keeps.length+L.holds.length∧a=⟨rowB vh,(m-(L.reads.length+L.keeps.length))*2,none⟩) ∨
  (L.reads.length+L.keeps.length+L.holds.length≤m∧(uAddr (rowB vu) 0 L.undos)[m-(L.reads.length+L.keeps.length+L.holds.length)]?=some a):=by
 unfold lAddr at ha;by_cases h1:m<L.reads.length
 ·left
  rw[List.append_assoc,List.append_assoc,List.getElem?_append_left (by simpa using h1),List.getElem?_map,List.getElem?_range h1]at ha
  refine⟨h1,?_⟩;simpa [sAddr] using ha.symm
 ·right
  by_cases h2:m<L.reads.length+L.keeps.length
  ·left
   rw[List.append_assoc,List.append_assoc,List.getElem?_append_right (by simp;omega),List.getElem?_append_left (by simp;omega),List.getElem?_map]at ha
   simp only[List.length_map,List.length_range]at ha;rw[List.getElem?_range (by omega)]at ha
   refine⟨by omega,h2,?_⟩
   simpa [sAddr] using ha.symm
  ·right
   by_cases h3:m<L.reads.length+L.keeps.length+L.holds.length
   ·left
    rw[List.append_assoc,List.getElem?_append_right (by simp;omega),List.getElem?_append_left (by simp;omega),List.getElem?_map]at ha
    simp only[List.length_append,List.length_map,List.length_range]at ha;rw[List.getElem?_range (by omega)]at ha
    refine⟨by omega,h3,?_⟩
    simpa [sAddr] using ha.symm
   ·right
    rw[List.getElem?_append_right (by simp;omega)]at ha
    simp only[List.length_append,List.length_map,List.length_range]at ha;exact⟨by omega,ha⟩
theorem lAddr_r (vr vk vh vu:Value)(L:Lg){j:Nat}(h:j<L.reads.length):(lAddr vr vk vh vu L)[j]?=some ⟨rowB vr,j,none⟩:=by
 unfold lAddr;rw[List.append_assoc,List.append_assoc,List.getElem?_append_left (by simpa using h),List.getElem?_map,List.getElem?_range h]
 simp[sAddr]
theorem lAddr_k (vr vk vh vu:Value)(L:Lg){j:Nat}(h:j<L.keeps.length):(lAddr vr vk vh vu L)[L.reads.length+j]?=some ⟨rowB vk,j,none⟩:=by
 unfold lAddr;rw[List.append_assoc,List.append_assoc,List.getElem?_append_right (by simp),List.getElem?_append_left (by simp;omega),List.getElem?_map]
 simp only[List.length_map,List.length_range];rw[show L.reads.length+j-L.reads.length=j from by omega,List.getElem?_range h]
 simp[sAddr]
theorem lAddr_h (vr vk vh vu:Value)(L:Lg){j:Nat}(h:j<L.holds.length):(lAddr vr vk vh vu L)[L.reads.length+L.keeps.length+j]?=some ⟨rowB vh,j*2,none⟩:=by
 unfold lAddr;rw[List.append_assoc,List.getElem?_append_right (by simp<;>omega),List.getElem?_append_left (by simp<;>omega),List.getElem?_map]
 simp only[List.length_append,List.length_map,List.length_range];rw[show L.reads.length+L.keeps.length+j-(L.reads.length+L.keeps.length)=j from by omega,List.getElem?_range h]
 simp[sAddr]
theorem lAddr_u (vr vk vh vu:Value)(L:Lg)(j:Nat):(lAddr vr vk vh vu L)[L.reads.length+L.keeps.length+L.holds.length+j]?=(uAddr (rowB vu) 0 L.undos)[j]?:=by
 unfold lAddr;rw[List.getElem?_append_right (by simp<;>omega)]
 simp only[List.length_append,List.length_map,List.length_range];rw[show L.reads.length+L.keeps.length+L.holds.length+j-(L.reads.length+L.keeps.length+L.holds.length)=j from by omega]
def uCount (us:List Un)(j:Nat):Nat:=((us.take j).flatMap Un.places).length
theorem uCount_succ {us:List Un}{j:Nat}{u:Un}(h:us[j]?=some u):uCount us (j+1)=uCount us j+if u.kind=1 then 2 else 1:=by
 unfold uCount;have hj:=(List.getElem?_eq_some_iff.1 h);rw[List.take_succ_eq_append_getElem hj.1,hj.2,List.flatMap_append,List.length_append,List.flatMap_cons,List.flatMap_nil,List.append_nil];unfold Un.places;split<;>simp
theorem uAddr_at (g:Nat):∀ (us:List Un)(b j:Nat)(u:Un),us[j]?=some u→(uAddr g b us)[uCount us j]?=some ⟨g,(b+j)*4+1,none⟩∧(u.kind=1→(uAddr g b us)[uCount us j+1]?=some ⟨g,(b+j)*4+3,none⟩)
 | [],_,_,_,h=>by simp at h
 | z::us,b,0,u,h=>by
  simp at h;subst h;have e:uCount (z::us) 0=0:=rfl;rw[e];by_cases hk:z.kind=1
  ·unfold uAddr;rw[if_pos hk];exact⟨rfl,fun _=>rfl⟩
  ·unfold uAddr;rw[if_neg hk];exact⟨rfl,fun h=>absurd h hk⟩
 | z::us,b,j+1,u,h=>by
  obtain⟨h1,h2⟩:=uAddr_at g us (b+1) j u (by simpa using h)
  have e:uCount (z::us) (j+1)=z.places.length+uCount us j:=by unfold uCount;rw[List.take_succ_cons,List.flatMap_cons,List.length_append]
  rw[show b+(j+1)=b+1+j from by omega,e]
  by_cases hk:z.kind=1
  ·have hp:z.places.length=2:=by unfold Un.places;rw[if_pos hk];rfl
   unfold uAddr;rw[if_pos hk,hp,show 2+uCount us j=uCount us j+1+1 from by omega]
   exact⟨h1,h2⟩
  ·have hp:z.places.length=1:=by unfold Un.places;rw[if_neg hk];rfl
   unfold uAddr;rw[if_neg hk,hp,show 1+uCount us j=uCount us j+1 from by omega]
   exact⟨h1,h2⟩
theorem Row.ite {w:World}{o:Own}{t:Tag}{e:TypeId}{size n n':Nat}{v:Value}{xs xs':List Value}(h:Row w o t e size v n xs)(hn:n=n')(hx:xs=xs'):Row w o t e size v n' xs':=by subst hn hx;exact h
theorem addr_add (g j:Nat):(⟨g,0,none⟩:Addr).add j=⟨g,j,none⟩:=by unfold Addr.add;split<;>simp_all
def Placed (w:World)(o:Own)(id k b:Nat)(L:Lg)(vr vk vh vu:Value)(q:List Nat)(m:Nat)(a:Addr):Prop:=
 w.cell? a=(q[m]?).map nv∧a.spot=none∧a.block<w.heap.size∧w.frozen? a=false∧(∃ j,1≤j∧j≤4∧o a.block=(id,k+j))∧∀ x:Nat,LgIn (w.setCell a (nv x)) o id k b (L.put (q.set m x)) vr vk vh vu
theorem LgIn.place (q:List Nat)(hq:q.length=L.roots.length)(h:LgIn w o id k b (L.put q) vr vk vh vu){m:Nat}{a:Addr}(ha:(lAddr vr vk vh vu L)[m]?=some a):Placed w o id k b L vr vk vh vu q m a:=by
 have hl:L.roots.length=L.reads.length+L.keeps.length+L.holds.length+(L.undos.flatMap Un.places).length:=by unfold Lg.roots;simp only[List.length_append,List.length_map]
 have hmq:m<q.length:=by rw[hq,←lAddr_len vr vk vh vu L];exact (List.getElem?_eq_some_iff.1 ha).1
 have hstp:∀ (g c j:Nat)(u:Value),o g=(id,k+j)→Stp (fun t=>t=(id,k+j)) o o w (w.setCell ⟨g,c,none⟩ u):=fun g c j u hg=>(Stp.refl _ o w).setCell (by show o g=_;exact hg) u
 have hblk:∀ (g c j:Nat)(u:Value),1≤j→o g=(id,k+j)→Blk (w.setCell ⟨g,c,none⟩ u) b #[.int .i64 L.mr,.int .i64 L.mu,vr,vk,vh,vu] 219:=fun g c j u hj hg =>
  h.blk.stp (hstp g c j u hg) (by rw[h.ob];simp;omega)
 have e1:(L.put q).reads=q.take L.reads.length:=rfl;have e2:(L.put q).keeps=(q.drop L.reads.length).take L.keeps.length:=rfl;have e3:(L.put q).holds=putH L.holds (q.drop (L.reads.length+L.keeps.length)):=rfl;have e4:(L.put q).undos=putU L.undos (q.drop (L.reads.length+L.keeps.length+L.holds.length)):=rfl;have l1:(L.put q).reads.length=L.reads.length:=by rw[e1,List.length_take];omega
 have l2:(L.put q).keeps.length=L.keeps.length:=by rw[e2,List.length_take,List.length_drop];omega
 have l3:(L.put q).holds.length=L.holds.length:=by rw[e3,putH_len]
 have l4:(L.put q).undos.length=L.undos.length:=by rw[e4,putU_len]
 have k1:∀ x,(L.put (q.set m x)).reads.length=L.reads.length:=fun x=>by show (List.take _ _).length=_;rw[List.length_take,List.length_set];omega
 have k2:∀ x,(L.put (q.set m x)).keeps.length=L.keeps.length:=fun x=>by show (List.take _ (List.drop _ _)).length=_;rw[List.length_take,List.length_drop,List.length_set];omega
 have k3:∀ x,(L.put (q.set m x)).holds.length=L.holds.length:=fun x=>putH_len _ _
 have k4:∀ x,(L.put (q.set m x)).undos.length=L.undos.length:=fun x=>putU_len _ _
 have hrr:=h.rr;have hrk:=h.rk;have hrh:=h.rh;have hru:=h.ru;rw[l1]at hrr;rw[l2]at hrk;rw[l3]at hrh;rw[l4]at hru;rcases lAddr_at _ _ _ _ _ _ _ ha with ⟨hm,rfl⟩|⟨hm1,hm2,rfl⟩|⟨hm1,hm2,rfl⟩|⟨hm1,hu⟩
 ·obtain⟨cap,ev,ht,hlt⟩:=row_form hrr (by omega)
  rw[ev]at hrr;have hc:=hrr.cells m (nv (q[m]'hmq)) (by rw[e1,List.getElem?_map,List.getElem?_take_of_lt hm,List.getElem?_eq_getElem hmq];rfl)
  refine⟨by rw[hc,List.getElem?_eq_getElem hmq];rfl,rfl,hlt,hrr.free m,⟨1,by omega,by omega,ht⟩,fun x=>?_⟩
  have hs:=hstp (rowB vr) m 1 (nv x) ht;refine⟨hblk _ _ 1 _ (by omega) ht,?_,?_,?_,?_,h.ob⟩
  ·rw[ev]
   refine (hrr.put1 m (nv x)).ite (k1 x).symm ?_;show ((q.take L.reads.length).map nv).set m (nv x)=((q.set m x).take L.reads.length).map nv;rw[take_set',List.map_set]
  ·refine (hrk.stp hs (by simp)).ite (k2 x).symm ?_
   show ((q.drop L.reads.length).take L.keeps.length).map nv=(((q.set m x).drop L.reads.length).take L.keeps.length).map nv;rw[drop_set_lt _ _ _ _ hm]
  ·refine (hrh.stp hs (by simp)).ite (k3 x).symm ?_
   show hcells (putH L.holds (q.drop _))=hcells (putH L.holds ((q.set m x).drop _));rw[drop_set_lt _ _ _ _ (by omega)]
  ·refine (hru.stp hs (by simp)).ite (k4 x).symm ?_
   show ucells (putU L.undos (q.drop _))=ucells (putU L.undos ((q.set m x).drop _));rw[drop_set_lt _ _ _ _ (by omega)]
 ·obtain⟨cap,ev,ht,hlt⟩:=row_form hrk (by omega)
  rw[ev]at hrk;have hc:=hrk.cells (m-L.reads.length) (nv (q[m]'hmq)) (by
   rw[e2,List.getElem?_map,List.getElem?_take_of_lt (by omega),List.getElem?_drop,show L.reads.length+(m-L.reads.length)=m from by omega,List.getElem?_eq_getElem hmq];rfl)
  refine⟨by rw[hc,List.getElem?_eq_getElem hmq];rfl,rfl,hlt,hrk.free _,⟨2,by omega,by omega,ht⟩,fun x=>?_⟩
  have hs:=hstp (rowB vk) (m-L.reads.length) 2 (nv x) ht;refine⟨hblk _ _ 2 _ (by omega) ht,?_,?_,?_,?_,h.ob⟩
  ·refine (hrr.stp hs (by simp)).ite (k1 x).symm ?_
   show (q.take L.reads.length).map nv=((q.set m x).take L.reads.length).map nv;rw[take_set_ge _ _ _ _ hm1]
  ·rw[ev]
   refine (hrk.put1 (m-L.reads.length) (nv x)).ite (k2 x).symm ?_;show (((q.drop L.reads.length).take L.keeps.length).map nv).set _ (nv x)=(((q.set m x).drop L.reads.length).take L.keeps.length).map nv;rw[drop_set_ge _ _ _ _ hm1,take_set',List.map_set]
  ·refine (hrh.stp hs (by simp)).ite (k3 x).symm ?_
   show hcells (putH L.holds (q.drop _))=hcells (putH L.holds ((q.set m x).drop _));rw[drop_set_lt _ _ _ _ (by omega)]
  ·refine (hru.stp hs (by simp)).ite (k4 x).symm ?_
   show ucells (putU L.undos (q.drop _))=ucells (putU L.undos ((q.set m x).drop _));rw[drop_set_lt _ _ _ _ (by omega)]
 ·obtain⟨cap,ev,ht,hlt⟩:=row_form hrh (by omega)
  rw[ev]at hrh;have hph:=putH_set L.holds (q.drop (L.reads.length+L.keeps.length)) (m-(L.reads.length+L.keeps.length));have hcc:=(hph 0 (by omega) (by rw[List.length_drop];omega)).2
  rw[List.getElem?_drop,show L.reads.length+L.keeps.length+(m-(L.reads.length+L.keeps.length))=m from by omega,List.getElem?_eq_getElem hmq]at hcc
  have hc:=hrh.own.cells (g:=rowB vh) rfl _ _ (by rw[e3];exact hcc)
  rw[addr_add]at hc;refine⟨by rw[hc,List.getElem?_eq_getElem hmq];rfl,rfl,hlt,hrh.free _,⟨3,by omega,by omega,ht⟩,fun x=>?_⟩
  have hs:=hstp (rowB vh) ((m-(L.reads.length+L.keeps.length))*2) 3 (nv x) ht;refine⟨hblk _ _ 3 _ (by omega) ht,?_,?_,?_,?_,h.ob⟩
  ·refine (hrr.stp hs (by simp)).ite (k1 x).symm ?_
   show (q.take L.reads.length).map nv=((q.set m x).take L.reads.length).map nv;rw[take_set_ge _ _ _ _ (by omega)]
  ·refine (hrk.stp hs (by simp)).ite (k2 x).symm ?_
   show ((q.drop L.reads.length).take L.keeps.length).map nv=(((q.set m x).drop L.reads.length).take L.keeps.length).map nv;rw[drop_set_ge _ _ _ _ (by omega),take_set_ge _ _ _ _ (by omega)]
  ·rw[ev]
   refine (hrh.put2 _ (nv x)).ite (k3 x).symm ?_;show (hcells (putH L.holds (q.drop _))).set _ (nv x)=hcells (putH L.holds ((q.set m x).drop _));rw[drop_set_ge _ _ _ _ hm1,(hph x (by omega) (by rw[List.length_drop];omega)).1]
  ·refine (hru.stp hs (by simp)).ite (k4 x).symm ?_
   show ucells (putU L.undos (q.drop _))=ucells (putU L.undos ((q.set m x).drop _));rw[drop_set_lt _ _ _ _ (by omega)]
 ·have hmu:=uAddr_lt hu
  have hpu:=fun x=>putU_set (rowB vu) L.undos 0 (q.drop (L.reads.length+L.keeps.length+L.holds.length)) _ x a hu (by rw[List.length_drop];omega)
  obtain⟨c0,ea0,_,hcc⟩:=hpu 0;have hup:0<L.undos.length:=by
   cases hL:L.undos with
   | nil=>rw[hL]at hu;simp[uAddr]at hu
   | cons u us=>simp
  obtain⟨cap,ev,ht,hlt⟩:=row_form hru hup;rw[ev]at hru;simp only[Nat.zero_mul,Nat.zero_add]at ea0;subst ea0;rw[List.getElem?_drop,show L.reads.length+L.keeps.length+L.holds.length+(m-(L.reads.length+L.keeps.length+L.holds.length))=m from by omega,List.getElem?_eq_getElem hmq]at hcc
  have hc:=hru.own.cells (g:=rowB vu) rfl _ _ (by rw[e4];exact hcc)
  rw[addr_add]at hc;refine⟨by rw[hc,List.getElem?_eq_getElem hmq];rfl,rfl,hlt,hru.free _,⟨4,by omega,by omega,ht⟩,fun x=>?_⟩
  obtain⟨c,ea1,hset,_⟩:=hpu x;have hcx:c=c0:=by simp only[Nat.zero_mul,Nat.zero_add,Addr.mk.injEq,true_and,and_true]at ea1;exact ea1.symm
  subst hcx;have hs:=hstp (rowB vu) c 4 (nv x) ht;refine⟨hblk _ _ 4 _ (by omega) ht,?_,?_,?_,?_,h.ob⟩
  ·refine (hrr.stp hs (by simp)).ite (k1 x).symm ?_
   show (q.take L.reads.length).map nv=((q.set m x).take L.reads.length).map nv;rw[take_set_ge _ _ _ _ (by omega)]
  ·refine (hrk.stp hs (by simp)).ite (k2 x).symm ?_
   show ((q.drop L.reads.length).take L.keeps.length).map nv=(((q.set m x).drop L.reads.length).take L.keeps.length).map nv;rw[drop_set_ge _ _ _ _ (by omega),take_set_ge _ _ _ _ (by omega)]
  ·refine (hrh.stp hs (by simp)).ite (k3 x).symm ?_
   show hcells (putH L.holds (q.drop _))=hcells (putH L.holds ((q.set m x).drop _));rw[drop_set_ge _ _ _ _ (by omega),putH_ge _ _ _ _ (by omega)]
  ·rw[ev]
   refine (hru.put2 c (nv x)).ite (k4 x).symm ?_;show (ucells (putU L.undos (q.drop _))).set c (nv x)=ucells (putU L.undos ((q.set m x).drop _));rw[drop_set_ge _ _ _ _ hm1,hset]
end
end Go.Proofs.YteehgedabdchcaaGreat
namespace Go.Proofs.YteehgedabdchcaaGreat
open Hp
structure Res where
 S:Stt
 v:Int
 e:Int
def isAb (e:Int):Bool:=e==141||e==130||e==100
def Res.fin (r:Res)(i:Nat):Res:=if isAb r.e=true then⟨r.S.abort i,0,r.e⟩ else if r.e=0 then r else⟨r.S,0,r.e⟩
def Stt.deedR (S:Stt)(i:Nat)(r:Res):Res:=if (S.t i).live=true then r.fin i else⟨S,0,140⟩
def Stt.readR (S:Stt)(i p j:Nat):Res:=
 if (S.fieldsR i p).2≠0 then⟨(S.fieldsR i p).1,0,(S.fieldsR i p).2⟩ else⟨(S.fieldsR i p).1,((S.fieldsR i p).1.H.numR p j).1,((S.fieldsR i p).1.H.numR p j).2⟩
def Stt.getR (S:Stt)(i p j:Nat):Res:=
 if (S.fieldsR i p).2≠0 then⟨(S.fieldsR i p).1,0,(S.fieldsR i p).2⟩ else⟨(S.fieldsR i p).1.h ((S.fieldsR i p).1.H.ptrR p j).1,((S.fieldsR i p).1.H.ptrR p j).2.1,((S.fieldsR i p).1.H.ptrR p j).2.2⟩
def Stt.chg (S:Stt)(i p:Nat)(u:Un)(set:Hp→Hp×Nat):Res:=
 if (S.holdR i p).2=false then⟨(S.holdR i p).1,0,130⟩
 else if ((S.holdR i p).1.undoR i u).2=false then⟨((S.holdR i p).1.undoR i u).1,0,130⟩
 else⟨((S.holdR i p).1.undoR i u).1.h (set ((S.holdR i p).1.undoR i u).1.H).1,0,(set ((S.holdR i p).1.undoR i u).1.H).2⟩
def Stt.writeR (S:Stt)(i p j:Nat)(v:Int):Res:=
 if (S.fieldsR i p).2≠0 then ⟨(S.fieldsR i p).1,0,(S.fieldsR i p).2⟩
 else if ((S.fieldsR i p).1.H.numR p j).2≠0 then ⟨(S.fieldsR i p).1,0,((S.fieldsR i p).1.H.numR p j).2⟩
 else (S.fieldsR i p).1.chg i p ⟨2,p,j,((S.fieldsR i p).1.H.numR p j).1⟩ fun H=>H.setNumR p j v
def Stt.put1R (S:Stt)(i p j q:Nat):Res:=
 if (S.fieldsR i p).2≠0 then ⟨(S.fieldsR i p).1,0,(S.fieldsR i p).2⟩
 else if ((S.fieldsR i p).1.H.ptrR p j).2.2≠0 then ⟨(S.fieldsR i p).1.h ((S.fieldsR i p).1.H.ptrR p j).1,0,((S.fieldsR i p).1.H.ptrR p j).2.2⟩
 else ((S.fieldsR i p).1.h ((S.fieldsR i p).1.H.ptrR p j).1).chg i p ⟨1,p,j,((S.fieldsR i p).1.H.ptrR p j).2.1⟩ fun H=>H.setPtrR p j q
def Stt.putR (S:Stt)(i p j q:Nat):Res:=if q≠0∧lk S.H.cur q=none then⟨S,0,70⟩ else S.put1R i p j q
def Stt.freeR (S:Stt)(i p:Nat):Res:=
 if (S.lookR i p).2.1≠0 then ⟨(S.lookR i p).1,0,(S.lookR i p).2.1⟩ else (S.lookR i p).1.chg i p ⟨3,p,0,0⟩ fun H=>H.setFreedR p true
def Stt.allocR (S:Stt)(i:Nat)(s:Shp):Res:=⟨(S.layR i s).1,(S.layR i s).2.1,(S.layR i s).2.2⟩
def wkS:Shp:=⟨1,0,true,false⟩
theorem wkS_ok:wkS.ok:=⟨by decide,by decide,fun _=>⟨rfl,rfl,rfl⟩⟩
def Stt.weakR (S:Stt)(i q:Nat):Res:=
 if q=0 then⟨S,0,143⟩ else if lk S.H.cur q=none then⟨S,0,70⟩ else
  if (S.layR i wkS).2.2≠0 then⟨(S.layR i wkS).1,0,(S.layR i wkS).2.2⟩ else⟨(S.layR i wkS).1.h ((S.layR i wkS).1.H.setPtrR (S.layR i wkS).2.1 0 q).1,(S.layR i wkS).2.1,0⟩
def Tx.taking (x:Tx)(z:Nat×Nat):Tx:={ x with took:=x.took++[z] }
def Stt.takeR (S:Stt)(i:Nat):Res:=
 if S.holder≠-1∧S.holder≠(i:Int)∨(S.t i).start<S.version then⟨S,0,141⟩ else match S.queue with
 | []=>⟨{ S with holder:=i },0,0⟩
 | z::l=>if (S.t i).seen≤z.2 then⟨{ S with holder:=i },0,0⟩ else⟨({ S with holder:=i,queue:=l }:Stt).tx i ((S.t i).taking z),z.1,0⟩
def Hp.comL (H:Hp)(zs:List (Nat×Nat))(v:Nat):Hp:=zs.foldl (fun H z=>(H.setSecondR z.1 (2*v)).1) H
def Stt.clashes (S:Stt)(i:Nat):Bool:=(S.t i).log.reads.any fun p=>clashB i (S.t i).start (S.H.sec p)
def Stt.tickR (S:Stt)(i:Nat):Stt:=
 if S.holder=(i:Int) then { S with now:=S.now+1,H:=S.H.comL (S.t i).log.holds (S.now+1),holder:=-1,version:=S.now+1 } else { S with now:=S.now+1,H:=S.H.comL (S.t i).log.holds (S.now+1) }
def Stt.commitR (S:Stt)(i:Nat):Res:=
 if (S.t i).log.holds=[]∧S.holder≠(i:Int) then⟨S.tx i (S.t i).ended,0,0⟩ else if S.clashes i=true then⟨S,0,141⟩ else⟨(S.tickR i).tx i (S.t i).ended,(S.now:Int)+1,0⟩
def Tx.begun (x:Tx)(n s:Nat):Tx:={ x with live:=true,start:=n,seen:=s }
def Stt.beginR (S:Stt)(i:Nat):Stt×Int:=
 if (S.t i).live=true then (S,140) else if S.now+(liveN S.txs+1)≤S.most then (S.tx i ((S.t i).begun S.now S.next),0) else (S,120)
def Stt.abortR (S:Stt)(i:Nat):Stt×Int:=if (S.t i).live=true then (S.abort i,0) else (S,140)
theorem Stt.ok_fields {S:Stt}(hk:S.ok){i:Nat}(hi:i<S.txs.length)(p:Nat):(S.fieldsR i p).1.ok:=Stt.ok_look hk hi p
theorem fields_len (S:Stt)(i p:Nat):(S.fieldsR i p).1.txs.length=S.txs.length:=look_len S i p
theorem Stt.ok_fin {r:Res}(h:r.S.ok){i:Nat}(hi:i<r.S.txs.length):(r.fin i).S.ok:=by
 unfold Res.fin;split
 ·exact Stt.ok_abort h hi
 ·split<;>exact h
theorem fin_len (r:Res)(i:Nat):(r.fin i).S.txs.length=r.S.txs.length:=by
 unfold Res.fin;split
 ·exact abort_len _ _
 ·split<;>rfl
theorem Stt.ok_deedR {S:Stt}(hk:S.ok){i:Nat}(hi:i<S.txs.length){r:Res}(h:r.S.ok)(hl:r.S.txs.length=S.txs.length):(S.deedR i r).S.ok:=by
 unfold Stt.deedR;split
 ·exact Stt.ok_fin h (by omega)
 ·exact hk
theorem deedR_len (S:Stt)(i:Nat){r:Res}(hl:r.S.txs.length=S.txs.length):(S.deedR i r).S.txs.length=S.txs.length:=by
 unfold Stt.deedR;split
 ·rw[fin_len];exact hl
 ·rfl
def Good (n:Nat)(r:Res):Prop:=r.S.ok∧r.S.txs.length=n
theorem Good.deed {S:Stt}(hk:S.ok){i:Nat}(hi:i<S.txs.length){r:Res}(h:Good S.txs.length r):Good S.txs.length (S.deedR i r):=⟨Stt.ok_deedR hk hi h.1 h.2,deedR_len S i h.2⟩
theorem good_readR {S:Stt}(hk:S.ok){i:Nat}(hi:i<S.txs.length)(p j:Nat):Good S.txs.length (S.readR i p j):=by
 unfold Stt.readR;split<;>exact⟨Stt.ok_fields hk hi p,fields_len S i p⟩
theorem good_getR {S:Stt}(hk:S.ok){i:Nat}(hi:i<S.txs.length)(p j:Nat):Good S.txs.length (S.getR i p j):=by
 unfold Stt.getR;split
 ·exact⟨Stt.ok_fields hk hi p,fields_len S i p⟩
 ·exact⟨Stt.ok_ptr (Stt.ok_fields hk hi p) p j,fields_len S i p⟩
theorem good_chg {S:Stt}(hk:S.ok){i:Nat}(hi:i<S.txs.length)(p:Nat){u:Un}{set:Hp→Hp×Nat}(h1:-9223372036854775808≤u.old∧u.old≤9223372036854775807)(h2:u.kind=1→0≤u.old)
  (hs:∀ {T:Stt},T.ok→(T.h (set T.H).1).ok):Good S.txs.length (S.chg i p u set):=by
 unfold Stt.chg;split
 ·exact⟨Stt.ok_hold hk hi p,hold_len S i p⟩
 ·have h3:=Stt.ok_undo (Stt.ok_hold hk hi p) (by rw[hold_len];exact hi) u h1 h2
  have h4:=(undo_len (S.holdR i p).1 i u).trans (hold_len S i p);split
  ·exact⟨h3,h4⟩
  ·exact⟨hs h3,h4⟩
theorem Stt.ok.num_bd {S:Stt}(hk:S.ok)(p j:Nat):-9223372036854775808≤(S.H.numR p j).1∧(S.H.numR p j).1≤9223372036854775807:=by
 unfold Hp.numR;split
 ·simp
 ·rename_i ob hp
  split
  ·simp
  ·rename_i n hn;exact (hk.H.obk hp).num n (List.mem_of_getElem? hn)
theorem ptrR_bd {H:Hp}(h:H.wf)(p j:Nat):(H.ptrR p j).2.1≤131072:=by
 unfold Hp.ptrR;split
 ·simp
 ·rename_i ob hp
  split
  ·simp
  ·rename_i x hx
   have hxb:=(h.obk hp).ptr x (List.mem_of_getElem? hx);split
   ·exact moved_bd h.ok hxb
   ·exact hxb
theorem good_writeR {S:Stt}(hk:S.ok){i:Nat}(hi:i<S.txs.length)(p j:Nat){v:Int}(hv:-9223372036854775808≤v∧v≤9223372036854775807):Good S.txs.length (S.writeR i p j v):=by
 have hf:=Stt.ok_fields hk hi p;have hl:=fields_len S i p;unfold Stt.writeR;split
 ·exact⟨hf,hl⟩
 ·split
  ·exact⟨hf,hl⟩
  ·rw[←hl]
   exact good_chg hf (by rw[hl];exact hi) p (hf.num_bd p j) (fun h=>by simp at h) fun hT=>Stt.ok_setNum hT p j hv
theorem good_put1R {S:Stt}(hk:S.ok){i:Nat}(hi:i<S.txs.length)(p j q:Nat):Good S.txs.length (S.put1R i p j q):=by
 have hf:=Stt.ok_fields hk hi p;have hl:=fields_len S i p;have hb:=ptrR_bd hf.H p j;have hp:=Stt.ok_ptr hf p j;unfold Stt.put1R;split
 ·exact⟨hf,hl⟩
 ·split
  ·exact⟨hp,hl⟩
  ·rw[←hl]
   exact good_chg (S:=(S.fieldsR i p).1.h ((S.fieldsR i p).1.H.ptrR p j).1) hp (by show i<(S.fieldsR i p).1.txs.length;rw[hl];exact hi) p (by simp only;omega) (fun _=>by simp only;omega) fun hT=>Stt.ok_setPtr hT p j q
theorem good_putR {S:Stt}(hk:S.ok){i:Nat}(hi:i<S.txs.length)(p j q:Nat):Good S.txs.length (S.putR i p j q):=by
 unfold Stt.putR;split
 ·exact⟨hk,rfl⟩
 ·exact good_put1R hk hi p j q
theorem good_freeR {S:Stt}(hk:S.ok){i:Nat}(hi:i<S.txs.length)(p:Nat):Good S.txs.length (S.freeR i p):=by
 have hf:=Stt.ok_look hk hi p;have hl:=look_len S i p;unfold Stt.freeR;split
 ·exact⟨hf,hl⟩
 ·rw[←hl]
  exact good_chg hf (by rw[hl];exact hi) p (by simp) (fun h=>by simp at h) fun hT=>Stt.ok_setFreed hT p true
theorem good_allocR {S:Stt}(hk:S.ok){i:Nat}(hi:i<S.txs.length){s:Shp}(hs:s.ok):Good S.txs.length (S.allocR i s):=⟨Stt.ok_layR hk hi hs,lay_len S i s⟩
theorem Stt.ok_hol {S:Stt}(h:S.ok){z:Int}{v:Nat}(hz:-1≤z∧z≤8)(hv:v≤S.now):Stt.ok { S with holder:=z,version:=v }:=
 ⟨h.H,h.n2,h.lv,h.t1,h.t8,h.lg,h.st,hv,hz,h.sc,h.so,h.qu,h.nx,h.cm,h.se,h.ph⟩
theorem good_takeR {S:Stt}(hk:S.ok){i:Nat}(hi:i<S.txs.length):Good S.txs.length (S.takeR i):=by
 have h8:=hk.t8;unfold Stt.takeR;split
 ·exact⟨hk,rfl⟩
 ·split
  ·exact⟨Stt.ok_hol hk (by omega) hk.ve,rfl⟩
  ·rename_i z l hq
   split
   ·exact⟨Stt.ok_hol hk (by omega) hk.ve,rfl⟩
   ·have h1:Stt.ok { S with holder:=i }:=Stt.ok_hol hk (by omega) hk.ve
    have hx:=Stt.t_get hi;have hlv:=liveN_set S.txs i ((S.t i).taking z) _ hx;have htk:=tookN_set S.txs i ((S.t i).taking z) _ hx;have hmem:∀ y ∈ S.txs.set i ((S.t i).taking z),y ∈ S.txs∨y=(S.t i).taking z:=fun z hz=>List.mem_or_eq_of_mem_set hz
    have e1:((S.t i).taking z).took.length=(S.t i).took.length+1:=by simp[Tx.taking]
    have e2:((S.t i).taking z).live=(S.t i).live:=rfl;rw[e1]at htk;rw[e2]at hlv;have hlv':=Nat.add_right_cancel hlv;have hqu:=hk.qu;rw[hq,List.length_cons]at hqu;refine⟨⟨hk.H,hk.n2,by show S.now+liveN (S.txs.set i _)≤S.most;rw[hlv'];exact hk.lv,by simpa [Stt.tx] using hk.t1,by simpa [Stt.tx] using hk.t8,fun z hz=>?_,fun z hz=>?_,hk.ve,h1.ho,hk.sc,hk.so,by show l.length+tookN (S.txs.set i _)≤S.next;omega,hk.nx,hk.cm,fun z hz=>?_,hk.ph⟩,by simp[Stt.tx]⟩
    ·rcases hmem z hz with h|rfl
     ·exact hk.lg z h
     ·exact hk.lgt hi
    ·rcases hmem z hz with h|rfl
     ·exact hk.st z h
     ·exact hk.stt hi
    ·rcases hmem z hz with h|rfl
     ·exact hk.se z h
     ·exact hk.set hi
theorem Stt.ok_comL:∀ (zs:List (Nat×Nat)){S:Stt}{v:Nat},S.ok→v≤1099511627776→(S.h (S.H.comL zs v)).ok
 | [],_,_,hk,_=>hk
 | z::zs,S,v,hk,hv=>Stt.ok_comL zs (S:=S.h (S.H.setSecondR z.1 (2*v)).1) (Stt.ok_com1 hk z.1 hv) hv
theorem comL_snoc (H:Hp)(zs:List (Nat×Nat))(z:Nat×Nat)(v:Nat):H.comL (zs++[z]) v=((H.comL zs v).setSecondR z.1 (2*v)).1:=by unfold Hp.comL;rw[List.foldl_append];rfl
theorem liveN_ge:∀ (l:List Tx)(i:Nat)(x:Tx),l[i]?=some x→x.live=true→1≤liveN l
 | [],i,x,h,_=>by simp at h
 | q::l,0,x,h,hl=>by simp at h;subst h;rw[liveN_cons,if_pos hl];omega
 | q::l,i+1,x,h,hl=>by have:=liveN_ge l i x (by simpa using h) hl;rw[liveN_cons];omega
theorem Stt.ok_tick {S:Stt} (hk:S.ok) {i:Nat} (hi:i<S.txs.length) (hl:(S.t i).live=true) {z:Int} {v:Nat} (hz:-1≤z∧z≤8) (hv:v≤S.now+1) :
  Stt.ok (({ S with now:=S.now+1,H:=S.H.comL (S.t i).log.holds (S.now+1),holder:=z,version:=v }:Stt).tx i (S.t i).ended):=by
 have h1:=liveN_ge S.txs i _ (Stt.t_get hi) hl;have h2:=hk.lv;have h3:=hk.n2;have hc:=Stt.ok_comL (S.t i).log.holds hk (v:=S.now+1) (by omega)
 have he:=Stt.ok_ended hc (i:=i) hi (q:=S.queue) (z:=z) (v:=S.version) (by show S.queue.length≤S.queue.length+_;omega) hz hk.ve
 have hls:=liveN_set S.txs i (S.t i).ended _ (Stt.t_get hi);rw[hl]at hls;have e0:(S.t i).ended.live=false:=rfl;rw[e0]at hls;simp only[if_true,Bool.false_eq_true,if_false]at hls;exact⟨he.H,he.n2,by show S.now+1+liveN (S.txs.set i (S.t i).ended)≤S.most;omega,he.t1,he.t8,he.lg,fun x hx=>Nat.le_succ_of_le (he.st x hx),hv,hz,he.sc,he.so,he.qu,he.nx,he.cm,he.se,he.ph⟩
theorem good_commitR {S:Stt} (hk:S.ok) {i:Nat} (hi:i<S.txs.length) (hl:(S.t i).live=true):Good S.txs.length (S.commitR i):=by
 unfold Stt.commitR;split
 ·exact⟨Stt.ok_ended hk hi (q:=S.queue) (z:=S.holder) (v:=S.version) (by omega) hk.ho hk.ve,by simp[Stt.tx]⟩
 ·split
  ·exact⟨hk,rfl⟩
  ·unfold Stt.tickR
   split
   ·exact⟨Stt.ok_tick hk hi hl (z:=-1) (v:=S.now+1) (by omega) (Nat.le_refl _),by simp[Stt.tx]⟩
   ·exact⟨Stt.ok_tick hk hi hl (z:=S.holder) (v:=S.version) hk.ho (by have:=hk.ve;omega),by simp[Stt.tx]⟩
theorem ok_beginR {S:Stt}(hk:S.ok){i:Nat}(hi:i<S.txs.length):(S.beginR i).1.ok:=by
 unfold Stt.beginR;split
 ·exact hk
 ·rename_i hl
  split
  ·rename_i hm
   have hx:=Stt.t_get hi;have hlv:=liveN_set S.txs i ((S.t i).begun S.now S.next) _ hx;have htk:=tookN_set S.txs i ((S.t i).begun S.now S.next) _ hx;have hmem:∀ y ∈ S.txs.set i ((S.t i).begun S.now S.next),y ∈ S.txs∨y=(S.t i).begun S.now S.next:=fun z hz=>List.mem_or_eq_of_mem_set hz
   have e1:((S.t i).begun S.now S.next).took.length=(S.t i).took.length:=rfl;have e2:((S.t i).begun S.now S.next).live=true:=rfl;rw[e1]at htk;rw[e2,if_neg hl,if_pos rfl]at hlv;refine⟨hk.H,hk.n2,by show S.now+liveN (S.txs.set i _)≤S.most;omega,by simpa [Stt.tx] using hk.t1,by simpa [Stt.tx] using hk.t8,fun z hz=>?_,fun z hz=>?_,hk.ve,hk.ho,hk.sc,hk.so,by show S.queue.length+tookN (S.txs.set i _)≤S.next;have:=hk.qu;omega,hk.nx,hk.cm,fun z hz=>?_,hk.ph⟩
   ·rcases hmem z hz with h|rfl
    ·exact hk.lg z h
    ·exact hk.lgt hi
   ·rcases hmem z hz with h|rfl
    ·exact hk.st z h
    ·exact Nat.le_refl _
   ·rcases hmem z hz with h|rfl
    ·exact hk.se z h
    ·exact Nat.le_refl _
  ·exact hk
theorem ok_abortR {S:Stt}(hk:S.ok){i:Nat}(hi:i<S.txs.length):(S.abortR i).1.ok:=by
 unfold Stt.abortR;split
 ·exact Stt.ok_abort hk hi
 ·exact hk
end Go.Proofs.YteehgedabdchcaaGreat
namespace Go.Proofs.YteehgedabdchcaaGreat
open Go.RowKit Hp
section
variable {n : Nat} {P : Program} {ops : Array Oper} {md : Region.Mode} {w : World} {F : Fence}
structure OpenF (F:Fence)(P:Program):Prop where
 fn:∀ f,F.fn f
 calls:∀ {n:Nat}{f:FuncId}{args:Array Value}{w:World}{R:Ending→World→Prop},Calls P f args w R→(F.depth.isSome=true→1≤n)∧CallsIn F (n-1) P f args w R
theorem openW (P:Program):OpenF Fence.wide P:=⟨fun _=>trivial,fun h=>⟨fun h=>(by simp[Fence.wide]at h),callsIn_wide.2 h⟩⟩
theorem openR (l:Nat)(P:Program):OpenF (Fence.wide.inRound l) P:=⟨fun _=>trivial,fun h=>⟨fun h=>(by simp[Fence.inRound,Fence.wide]at h),CallsIn.inRound l (callsIn_wide.2 h)⟩⟩
theorem opIn_of_still (hF:OpenF F P){o:Oper}{a:Act}{K:Act→Prop}{K':Act→World→Prop}{Q':Exit→Act→World→Prop}(hd:∀ c,o.op≠.defer c)(h:∀ a,K a→K' a w)(hh:o.still P a w K):o.wpIn F n P a w K' Q':=by
 unfold Oper.still at hh;refine⟨fun _ _=>hF.fn _,?_⟩
 rw[Oper.semAt_eq _ _ _ hd];generalize (execOp a.eval o).run P w=r at *
 cases r with
 | ok m w' =>
  cases m<;>simp only[Oper.stillUpon]at hh<;>simp only[Oper.uponIn]
  case enter f args =>
   obtain⟨rfl,v,hc,hn⟩:=hh;refine hF.calls (hc.mono fun e w'' he=>?_)
   obtain⟨he,hw⟩:=he;subst he;subst hw;exact h _ hn
  all_goals (obtain⟨rfl,h2⟩:=hh;exact h _ h2)
 | halt x w'=>simp only[Oper.stillUpon]at hh
theorem anyIn_of_stOp (hF:OpenF F P){i:Nat}{a:Act}{K:Act→Prop}{K':Act→World→Prop}{Q':Exit→Act→World→Prop}(hd:∀ (j:Nat)(o:Oper) c,ops[j]?=some o→o.op≠.defer c)(h:∀ a,K a→K' a w)(hh:stOp P ops w i K a):wpOpIn F n P ops Q' i K' a w:=by
 unfold stOp at hh;unfold wpOpIn;split
 ·rename_i ho;simp only[ho]at hh;exact h _ hh
 ·rename_i o ho
  simp only[ho]at hh;split
  ·rename_i hw;simp only[hw,if_true]at hh;exact opIn_of_still hF (fun c=>hd _ _ c ho) h hh
  ·rename_i hw;simp only[hw]at hh;exact⟨fun _ _=>hF.fn _,h _ hh⟩
theorem anyIn_of_head (hF:OpenF F P){m g:Nat}{L:Array Bool→Act→Prop}{Q':Exit→Act→World→Prop}(hd:∀ (j:Nat)(o:Oper) c,ops[j]?=some o→o.op≠.defer c)(hL:∀ listed a,L listed a→wpAnyIn F n P md ops Q' g listed a w) :
  ∀ (f:Nat)(listed:Array Bool)(a:Act),wpAnyL P md ops w m L f listed a→wpAnyIn F n P md ops Q' (f+g) listed a w
 | 0,listed,a,h=>by rw[Nat.zero_add];exact hL _ _ h
 | f+1,listed,a,h=>by
  rw[show f+1+g=(f+g)+1 by omega]
  exact⟨fun h0=>absurd h0 h.1,fun i hi=>anyIn_of_stOp hF hd (fun a' h'=>anyIn_of_head hF hd hL f _ a' h') (h.2 i hi).2⟩
theorem anyIn_of_seq {Q':Exit→Act→World→Prop}:∀ (l':List Oper)(k:Nat)(listed:Array Bool)(a:Act)(w:World),(∀ j,l'[j]?=ops[k+j]?) →
  Region.seqB md ops l'.length k listed=true→wpListIn F n P ops Q' l' a w→wpAnyIn F n P md ops Q' l'.length listed a w
 | [],_,_,_,_,_,hB,h=>⟨by simpa [Region.seqB] using hB,h⟩
 | o::l',k,listed,a,w,hl,hB,h=>by
  have h0:ops[k]?=some o:=by simpa using (hl 0).symm
  simp only[List.length_cons,Region.seqB,Bool.and_eq_true,decide_eq_true_eq]at hB;refine⟨fun h1=>(by rw[hB.1]at h1;cases h1),fun i hi=>?_⟩
  rw[hB.1]at hi;have hik:i=k:=by simpa using hi
  subst hik;have hw:wpOpIn F n P ops Q' i (wpListIn F n P ops Q' l') a w:=by unfold wpOpIn;simp only[h0];exact h
  exact wpOpIn_mono (fun a' w' h'=>anyIn_of_seq l' (i+1) _ a' w' (fun j=>by have:=hl (j+1);simpa [Nat.add_assoc,Nat.add_comm 1 j] using this) hB.2 h') hw
def noDefer (l:List Oper):Bool:=l.all fun o=>match o.op with|.defer _=>false|_=>true
theorem noDefer_spec {l:List Oper}(h:noDefer l=true):∀ (j:Nat)(o:Oper) c,l.toArray[j]?=some o→o.op≠.defer c:=by
 intro j o c hj e;have hm:o ∈ l:=by rw[List.getElem?_toArray]at hj;exact List.mem_of_getElem? hj
 have:=List.all_eq_true.1 h o hm;rw[e]at this
 cases this
theorem wpIn_region_tail (hF:OpenF F P) {id:Nat} {Q:Exit→Act→World→Prop} {a:Act} {w:World} {l':List Oper} (m:Nat) (hm:P.follows .mixedOrders=true) (hB:Region.lexTailB .any l'.toArray m=true) (hd:noDefer l'=true)
  (h:wpStill P l'.toArray w.drew (fun a'=>wpListIn F n P l'.toArray Q (l'.drop m) a' w.drew) (l'.take m) a):(Code.region id l'.toArray true).wpIn F n P Q a w:=by
 simp only[Region.lexTailB,Bool.and_eq_true,decide_eq_true_eq]at hB;obtain⟨⟨⟨⟨hsel,hn⟩,hs⟩,hc⟩,hlex⟩:=hB;have hn':m<l'.length:=by simpa using hn
 have htl:(l'.take m).length=m:=by simp;omega
 have hdl:(l'.drop m).length=l'.toArray.size-m:=by simp
 have inv0:HeadInv .any l'.toArray m (Array.replicate l'.toArray.size false):=
  ⟨by simp,fun j oj _ hl=>(by rw[getD_replicate_false]at hl;cases hl),fun t _ ht=>getD_in (by simpa using ht) (getD_replicate_false _ _)⟩
 have H:=wpAnyL_lex (md:=.any) (g:=l'.toArray.size-m) hsel hs hc hn (l'.take m) 0 _ a (fun j hj=>by
  have hj':j<m:=by rw[htl]at hj;exact hj
  simp[hj']) (by simpa using htl) inv0 (by rw[htl];exact hlex) h
 refine wpIn_region_any hm ?_;have:=anyIn_of_head hF (n:=n) (Q':=Q) (g:=l'.toArray.size-m) (noDefer_spec hd) (fun listed a' hL=>by
  have:=anyIn_of_seq (F:=F) (n:=n) (md:=.any) (Q':=Q) (l'.drop m) m listed a' w.drew (fun j=>by simp[List.getElem?_drop]) (by rw[hdl];exact hL.1) hL.2
  rwa [hdl]at this) _ _ _ H
 rw[htl,show m+(l'.toArray.size-m)=l'.toArray.size by omega]at this
 exact this
theorem wpIn_calm {K:Act→World→Prop}{Q:Exit→Act→World→Prop}{c:Code}{a:Act}{w:World}(h:c.wpIn F n P (Exit.then K fun _ _ _=>False) a w):c.wpIn F n P (Exit.then K Q) a w:=
 wpIn_mono h fun e _ _ hq=>by cases e<;>first|exact hq|exact hq.elim
end
end Go.Proofs.YteehgedabdchcaaGreat
