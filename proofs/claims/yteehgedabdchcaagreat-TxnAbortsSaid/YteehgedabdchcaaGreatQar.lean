import Derived.Test.YteehgedabdchcaaGreatQak
import Derived.Defers
import Derived.Laws.CopyRow
import Derived.Shelf.Spec.SlicesGrow
import Derived.Sort.CutIn
import Derived.Stop.RegionWithIn
set_option linter.all false
set_option maxRecDepth 1000000
set_option maxHeartbeats 16000000
namespace Go.Proofs.YteehgedabdchcaaGreat
open Go.RowKit Hp
attribute [local go_sem ↓] Go.wp_at_zero Go.wp_at_succ
def Tx.fresh (r u:Nat):Tx:=⟨false,0,0,Lg.fresh r u,[]⟩
def Stt.fresh (n k r u m:Nat):Stt:=⟨Hp.fresh n,0,0,m,List.replicate k (Tx.fresh r u),[],0,-1,0,[],[]⟩
theorem liveN_fresh (k r u:Nat):liveN (List.replicate k (Tx.fresh r u))=0:=by
 induction k with
 | zero=>rfl
 | succ k ih=>rw[List.replicate_succ,liveN_cons,ih];rfl
theorem tookN_fresh (k r u:Nat):tookN (List.replicate k (Tx.fresh r u))=0:=by
 induction k with
 | zero=>rfl
 | succ k ih=>rw[List.replicate_succ];show 0+tookN _=0;rw[ih]
theorem Stt.fresh_ok {n k r u m:Nat}(h1:16≤n)(h2:n≤16384)(k1:1≤k)(k8:k≤8)(hr:r≤200)(hu:u≤200)(hm:m≤1099511627776):(Stt.fresh n k r u m).ok:=by
 have hfx:∀ x ∈ (Stt.fresh n k r u m).txs,x=Tx.fresh r u:=fun x hx=>List.eq_of_mem_replicate hx
 refine⟨Hp.fresh_wf h1 h2,hm,?_,by simpa [Stt.fresh] using k1,by simpa [Stt.fresh] using k8,fun x hx=>?_,fun x hx=>?_,Nat.le_refl _,by simp[Stt.fresh],fun x hx=>(by cases hx),fun x hx=>(by cases hx),?_,by simp[Stt.fresh,Hp.fresh],by simp[Stt.fresh],fun x hx=>?_,?_⟩
 ·show 0+liveN (List.replicate k (Tx.fresh r u))≤m
  rw[liveN_fresh];omega
 ·rw[hfx x hx]
  exact⟨⟨hr,hu,Nat.zero_le _,Nat.zero_le _,Nat.zero_le _,Nat.zero_le _⟩,fun z hz=>(by cases hz),fun z hz=>(by cases hz),fun z hz=>(by cases hz)⟩
 ·rw[hfx x hx];exact Nat.le_refl _
 ·show 0+tookN (List.replicate k (Tx.fresh r u))≤0
  rw[tookN_fresh];omega
 ·rw[hfx x hx];exact Nat.le_refl _
 ·exact⟨by simp[Stt.fresh],by simp[Stt.fresh,Hp.fresh]⟩
theorem Stp.strict {T:Tag→Prop}{o o':Own}{w w':World}(h:Stp T o o' w w')(ht:∀ b,b<w.heap.size→¬T (o b)):Stp (fun _=>False) o o' w w':=
 ⟨h.os,h.tape,h.output,h.size,h.tags,fun b hb _=>h.block b hb (ht b hb)⟩
theorem info_tx:∃ i,Tryz.prog.info? 103=some i∧i.size=1∧i.bytes=8∧i.zero=some (.pointer none):=info_parts (by kernel_rfl)
section
variable {w w' : World} {o o' : Own} {y : SLay} {S : Stt}
theorem StIn.more {n k r u m:Nat}(h:StIn w o y (Stt.fresh n k r u m)){v':Value}{lb:Nat}
  (hs:Stp (fun t=>t=(y.l.id,11)∨t=(y.l.id,12)) o o' w w')
  (hb:Blk w' y.sb #[ptr y.l.h,ptr y.cy,ptr y.ck,v',.slice none 0 0,.int .i64 0,.int .i64 (-1),.int .i64 0,.slice none 0 0,.slice none 0 0] 101)
  (hr:Row w' o' (y.l.id,12) 103 1 v' (k+1) (((List.range k).map fun i=>ptr (y.xb i))++[ptr (lb+1)]))
  (jx:Blk w' (lb+1) #[.int .i64 k,.bool false,.int .i64 0,.int .i64 0,ptr lb,.slice none 0 0] 107)
  (jl:Blk w' lb #[.int .i64 r,.int .i64 u,.slice none 0 0,.slice none 0 0,.slice none 0 0,.slice none 0 0] 219)
  (ox:o' (lb+1)=(y.l.id,16+8*k))(ol:o' lb=(y.l.id,17+8*k)) :
  StIn w' o' { y with vth:=v',xb:=fun j=>if j=k then lb+1 else y.xb j,lb:=fun j=>if j=k then lb else y.lb j } (Stt.fresh n (k+1) r u m):=by
 refine⟨⟨.slice none 0 0,.slice none 0 0,.slice none 0 0,hb,⟨Row.nil _ _ _ _ _,Row.nil _ _ _ _ _,Row.nil _ _ _ _ _⟩⟩,h.cy.stp hs (by rw[h.oy];simp),h.hp.stp hs fun j hj=>by simp;omega,h.ck.stp hs (by rw[h.oc];simp),?_,fun i x hx=>?_,(hs.tags _ h.ck.lt).trans h.oc,(hs.tags _ h.lt).trans h.os,(hs.tags _ h.cy.lt).trans h.oy⟩
 ·show Row w' o' (y.l.id,12) _ 1 v' (List.replicate (k+1) (Tx.fresh r u)).length ((List.range (List.replicate (k+1) (Tx.fresh r u)).length).map _)
  rw[List.length_replicate,List.range_succ,List.map_append];have e1:((List.range k).map fun i=>ptr (if i=k then lb+1 else y.xb i))=(List.range k).map fun i=>ptr (y.xb i):=by
   refine List.map_congr_left fun i hi=>?_
   rw[if_neg (by have:=List.mem_range.1 hi;omega)]
  simp only[List.map_cons,List.map_nil,if_true];rw[e1];exact hr
 ·have hx':(List.replicate (k+1) (Tx.fresh r u))[i]?=some x:=hx
  have hi:i<k+1:=by have:=(List.getElem?_eq_some_iff.1 hx').1;simpa using this
  have hxe:x=Tx.fresh r u:=by rw[List.getElem?_replicate,if_pos hi]at hx';injection hx' with hx';exact hx'.symm
  subst hxe;by_cases e:i=k
  ·subst e
   simp only[if_true];exact⟨⟨.slice none 0 0,jx,Row.nil _ _ _ _ _⟩,⟨_,_,_,_,jl,Row.nil _ _ _ _ _,Row.nil _ _ _ _ _,Row.nil _ _ _ _ _,Row.nil _ _ _ _ _,ol⟩,ox⟩
  ·simp only[if_neg e]
   have hk:(List.replicate k (Tx.fresh r u))[i]?=some (Tx.fresh r u):=by rw[List.getElem?_replicate,if_pos (by omega)]
   exact (h.txs i _ hk).stp hs fun j hj=>by simp;omega
theorem new_in (n k r u:Nat)(m:Int)(h1:16≤n)(h2:n≤16384)(k1:1≤k)(k8:k≤8)(hr:r≤200)(hu:u≤200)(o:Own)(id:Nat)(w:World)(hfree:∀ b,b<w.heap.size→(o b).1≠id) :
  Calls Tryz.prog 46 #[.int .i64 n,.int .i64 k,.int .i64 r,.int .i64 u,.int .i64 m] w fun e w'=>∃ y o',e=.returned (.tuple #[ptr y.sb,.int .i64 0])∧y.l.id=id ∧
   StIn w' o' y (Stt.fresh n k r u (bnd m).toNat)∧Stp (fun _=>False) o o' w w':=by
 have HN:=Lib.hid (fun w=>hnew_any n h1 h2 o id w)
 have HF:=Lib.hid hfree;clear hfree;have HC:=Lib.hid (fun b w=>cycle_new b w)
 have HK:=Lib.hid (fun w=>clk_new m w)
 have HL:=Lib.hid (fun w=>log_new r u hr hu w)
 have hb0:0≤bnd m:=by unfold bnd;omega
 have hb1:bnd m=((bnd m).toNat:Int):=by omega
 rw[hb1]at HK;generalize (bnd m).toNat=M at *;clear hb0 hb1 hr hu h1 h2;have hu64:=Tryz.underlying98;have kI1:(1:Int)≤(k:Int):=by omega
 have kI8:(k:Int)≤8:=by omega
 go_enter Tryz.func46,Tryz.ntmps46;go_wp2_with fail;refine (HN.out _).mono ?_
 rintro e w1 ⟨h,a,wd,o1,rfl,hH,hs1,hle,hid⟩
 go_wp2_with fail;refine (HC.out _ _).mono ?_
 rintro e w2 ⟨rfl,hw2⟩
 have hb2:Below w1.heap.size w1 w2:=by rw[hw2];exact balloc (bsame w1) _
 have jY0:Blk w2 w1.heap.size #[ptr h,.nilFunc,.slice none 0 0,.slice none 0 0] 201:=by rw[hw2];exact Blk.new w1 _ _
 have hz2:w1.heap.size<w2.heap.size:=by rw[hw2];simp
 clear hw2;go_wp2_with fail;refine (HK.out _).mono ?_
 rintro e w3 ⟨rfl,rfl⟩
 obtain⟨W,hW⟩:∃ W:World,W=(w2.alloc (.cells #[.int .i64 0,.int .i64 M] 193)).alloc (.cells #[ptr h,ptr w1.heap.size,ptr w2.heap.size,.slice none 0 0,.slice none 0 0,.int .i64 0,.int .i64 (-1),.int .i64 0,.slice none 0 0,.slice none 0 0] 101):=⟨_,rfl⟩;have hb3:Below w1.heap.size w1 W:=by rw[hW];exact balloc (balloc hb2 _) _
 have jC:Blk W w2.heap.size #[.int .i64 0,.int .i64 M] 193:=by rw[hW];exact (Blk.new w2 _ _).alloc _
 have jB:Blk W (w2.heap.size+1) #[ptr h,ptr w1.heap.size,ptr w2.heap.size,.slice none 0 0,.slice none 0 0,.int .i64 0,.int .i64 (-1),.int .i64 0,.slice none 0 0,.slice none 0 0] 101:=by rw[hW];exact Blk.new_at _ _ _ _ _ (by simp) rfl
 have jY:Blk W w1.heap.size #[ptr h,.nilFunc,.slice none 0 0,.slice none 0 0] 201:=by rw[hW];exact (jY0.alloc _).alloc _
 have hz12:w1.heap.size≤w2.heap.size:=hb2.size;obtain⟨o2,ho2⟩:∃ o2:Own,o2=fun b=>if b=w2.heap.size then (id,10) else if b=w2.heap.size+1 then (id,11) else if b=w1.heap.size then (id,7) else o1 b:=⟨_,rfl⟩
 have hext:∀ b,b<w1.heap.size→o2 b=o1 b:=fun b hb=>by rw[ho2];show (if _ then _ else _)=_;rw[if_neg (by omega),if_neg (by omega),if_neg (by omega)]
 have oC:o2 w2.heap.size=(id,10):=by rw[ho2];exact if_pos rfl
 have oB:o2 (w2.heap.size+1)=(id,11):=by rw[ho2];show (if _ then _ else _)=_;rw[if_neg (by omega),if_pos rfl]
 have oY:o2 w1.heap.size=(id,7):=by rw[ho2];show (if _ then _ else _)=_;rw[if_neg (by omega),if_neg (by omega),if_pos rfl]
 have hs2:Stp (fun _=>False) o1 o2 w1 W:=⟨hb3.os,hb3.tape,hb3.output,hb3.size,hext,fun b hb _=>hb3.block b hb⟩
 have hS0:StIn W o2 ⟨w2.heap.size+1,⟨id,h,a,wd⟩,w1.heap.size,w2.heap.size,.slice none 0 0,fun _=>0,fun _=>0⟩ (Stt.fresh n 0 r u M):=
  ⟨⟨.slice none 0 0,.slice none 0 0,.slice none 0 0,jB,⟨Row.nil _ _ _ _ _,Row.nil _ _ _ _ _,Row.nil _ _ _ _ _⟩⟩,jY,⟨_,_,_,_,_,hH.stp hs2 fun _ _ h=>h⟩,jC,Row.nil _ _ _ _ _,fun i x hx=>(by cases hx),oC,oB,oY⟩
 have hs3:Stp (fun t=>t.1=id) o o2 w W:=(hs1.trans hs2).mono (fun _ h=>h.elim)
 have HS0:=Lib.hid hS0;have HS3:=Lib.hid hs3;clear hH hs1 hle hid hb2 hb3 jC jY jY0 hz2 hext oC oB oY hs2 hS0 hs3 ho2;go_wp2_with fail;rw[←hW];obtain⟨sb,hsb⟩:∃ sb,sb=w2.heap.size+1:=⟨_,rfl⟩;rw[←hsb]at HS0 jB ⊢;obtain⟨cy,hcy⟩:∃ cy,cy=w1.heap.size:=⟨_,rfl⟩;obtain⟨ck,hck⟩:∃ ck,ck=w2.heap.size:=⟨_,rfl⟩;rw[←hcy,←hck]at HS0 jB;have HJB:=Lib.hid jB;clear hW hsb hz12 hcy hck jB;go_loopw [37] (fun ix wr=>∃ (q:Nat)(v:Value)(xb lb:Nat→Nat)(oo:Own),ix=.int .i64 q∧q≤k∧StIn wr oo ⟨sb,⟨id,h,a,wd⟩,cy,ck,v,xb,lb⟩ (Stt.fresh n q r u M)∧Blk wr sb #[ptr h,ptr cy,ptr ck,v,.slice none 0 0,.int .i64 0,.int .i64 (-1),.int .i64 0,.slice none 0 0,.slice none 0 0] 101∧Stp (fun t=>t.1=id) o oo w wr) (fun ix _=>k-(intOf ix).toNat)
 case atStart=>exact⟨0,_,_,_,_,rfl,by omega,HS0.out,HJB.out,HS3.out⟩
 case round =>
  obtain⟨q,v,xb,lb,oo,rfl,hqk,hS,hB,hs⟩:=hrel;clear HS0 HS3 HJB;by_cases hlt:q<k
  ·have qI:(q:Int)<(k:Int):=by omega
   have hH:=Lib.hid hS;have hBH:=Lib.hid hB;have hsH:=Lib.hid hs;obtain⟨wo,rfl⟩:∃ wo:World,wo=wr:=⟨_,rfl⟩;have thr:=hS.thr;have hqz:(Stt.fresh n q r u M).txs.length=q:=List.length_replicate;rw[hqz]at thr;simp only at thr;clear hqz hS hs hqk;obtain⟨pa,cp,rfl⟩:=thr.slc;have c:=hB.cell;have sB:=hB.lt;obtain⟨z,hz⟩:∃ z,z=wo.heap.size:=⟨_,rfl⟩;have HL2:=Lib.hid (show Calls Tryz.prog 104 #[.int .i64 r,.int .i64 u] wo.drew fun e w'=>e=.returned (ptr z)∧Blk w' z #[.int .i64 r,.int .i64 u,.slice none 0 0,.slice none 0 0,.slice none 0 0,.slice none 0 0] 219∧Below wo.heap.size wo w'∧w'.heap.size=z+1 from by
    rw[hz];exact (HL.out wo.drew).mono fun e w' ⟨h1,h2,h3,h4⟩=>⟨h1,h2,btrans (bdrew (bsame wo)) h3,h4⟩)
   obtain⟨op,hop⟩:∃ op:Own,op=fun b=>if b=z then (id,17+8*q) else if b=z+1 then (id,16+8*q) else if b<z then oo b else (id+1,0):=⟨_,rfl⟩
   have opl:∀ b,b<wo.heap.size→op b=oo b:=fun b hb=>by rw[hop];show (if _ then _ else _)=_;rw[if_neg (by omega),if_neg (by omega),if_pos (by omega)]
   have opz:op z=(id,17+8*q):=by rw[hop];exact if_pos rfl
   have opz1:op (z+1)=(id,16+8*q):=by rw[hop];show (if _ then _ else _)=_;rw[if_neg (by omega),if_pos rfl]
   have thr2:=thr.retag opl;obtain⟨iT,hi,hsI,hyI,hzI⟩:=info_tx;have hml:q+1≤maxLen:=by simp only[maxLen];omega
   have hmb:(q+1)*8≤140737488355328:=by omega
   have sbz:sb<z:=by rw[hz];exact sB
   have HZ:=Lib.hid hz;have hone:∀ u ∈ [ptr (z+1)],u.oneCell'=true:=by intro u hu;simp at hu;subst hu;rfl
   have hfin:=Lib.hid (fun (w3 w4:World)(o4:Own)(v':Value)(jl:Blk w3 z #[.int .i64 r,.int .i64 u,.slice none 0 0,.slice none 0 0,.slice none 0 0,.slice none 0 0] 219)(hbl:Below wo.heap.size wo w3)(hz3:w3.heap.size=z+1)
     (hown:Row w4 o4 (id,12) 103 1 v' (q+1) (((List.range q).map fun i=>ptr (xb i))++[ptr (z+1)]))
     (hst:Stp (fun t=>t=(id,12)) op o4 ((w3.alloc (.cells #[.int .i64 q,.bool false,.int .i64 0,.int .i64 0,ptr z,.slice none 0 0] 107)).alloc (.cells #[ptr (z+1)] 103)) w4) =>
    show ∃ (xb lb:Nat→Nat)(oo:Own),StIn (w4.setCell ⟨sb,3,none⟩ v') oo ⟨sb,⟨id,h,a,wd⟩,cy,ck,v',xb,lb⟩ (Stt.fresh n (q+1) r u M)∧Blk (w4.setCell ⟨sb,3,none⟩ v') sb #[ptr h,ptr cy,ptr ck,v',.slice none 0 0,.int .i64 0,.int .i64 (-1),.int .i64 0,.slice none 0 0,.slice none 0 0] 101∧Stp (fun t=>t.1=id) o oo w (w4.setCell ⟨sb,3,none⟩ v') from by
     have hz:=HZ.out;have e0:op sb=(id,11):=(opl _ (by omega)).trans hH.out.os
     have k1:Below wo.heap.size wo ((w3.alloc (.cells #[.int .i64 q,.bool false,.int .i64 0,.int .i64 0,ptr z,.slice none 0 0] 107)).alloc (.cells #[ptr (z+1)] 103)):=balloc (balloc hbl _) _;have k2:Stp (fun _=>False) oo op wo ((w3.alloc (.cells #[.int .i64 q,.bool false,.int .i64 0,.int .i64 0,ptr z,.slice none 0 0] 107)).alloc (.cells #[ptr (z+1)] 103)):=⟨k1.os,k1.tape,k1.output,k1.size,opl,fun b hb _=>k1.block b hb⟩
     have jX:Blk ((w3.alloc (.cells #[.int .i64 q,.bool false,.int .i64 0,.int .i64 0,ptr z,.slice none 0 0] 107)).alloc (.cells #[ptr (z+1)] 103)) (z+1) #[.int .i64 q,.bool false,.int .i64 0,.int .i64 0,ptr z,.slice none 0 0] 107:=(Blk.new_at _ _ _ _ _ hz3.symm rfl).alloc _;have jL:=(jl.alloc (.cells #[.int .i64 q,.bool false,.int .i64 0,.int .i64 0,ptr z,.slice none 0 0] 107)).alloc (.cells #[ptr (z+1)] 103);have jS:=(hBH.out.below k1 (by omega)).stp hst (by rw[e0];simp)
     have e4:o4 sb=(id,11):=(hst.tags _ (hBH.out.below k1 (by omega)).lt).trans e0
     have k3:Stp (fun t=>t=(id,11)) o4 o4 w4 (w4.setCell ⟨sb,3,none⟩ v'):=(Stp.refl _ o4 w4).setCell (by show o4 sb=_;exact e4) _
     have k4:Stp (fun t=>t=(id,11)∨t=(id,12)) oo o4 wo (w4.setCell ⟨sb,3,none⟩ v'):=(k2.mono fun _ h=>h.elim).trans ((hst.mono fun _ h=>Or.inr h).trans (k3.mono fun _ h=>Or.inl h))
     have jS3:Blk (w4.setCell ⟨sb,3,none⟩ v') sb #[ptr h,ptr cy,ptr ck,v',.slice none 0 0,.int .i64 0,.int .i64 (-1),.int .i64 0,.slice none 0 0,.slice none 0 0] 101:=jS.set 3 v';refine⟨_,_,o4,hH.out.more k4 jS3 (hown.stp k3 (by simp)) ((jX.stp hst (by rw[opz1];simp;omega)).set_other (by show z+1≠sb;omega) _) ((jL.stp hst (by rw[opz];simp;omega)).set_other (by show z≠sb;omega) _) ?_ ?_,jS3,hsH.out.trans (k4.mono (by rintro _ (rfl|rfl)<;>rfl))⟩
     ·exact (hst.tags _ jX.lt).trans opz1
     ·exact (hst.tags _ jL.lt).trans opz)
   clear hz opz opz1 hop thr;go_upto_region 10 with fail;go_region_law (first
    | (refine step_append_row _ (by rfl) _ _ _ (by rfl) 103 iT _ 1 8 hu64 hi hzI hsI hyI (by rfl) (by decide) op (id,12) _ _ _ (by rfl) rn ⟨z+1+1,0,none⟩ 1 1 [ptr (z+1)] (by rfl) (by rfl) (news_one jn) hone hml hmb ?_;intro v' w4 hown hst;obtain⟨pa',cp',rfl⟩:=hown.slc;have jX:=(jB3.alloc _).alloc _ |>.stp hst (by rw[opl _ sB,hH.out.os];simp);have cX:=jX.cell;have zX:=jX.free;have sX:=jX.lt)
    | (go_simp;go_wp2_with ((go_at_call 104;refine HL2.out.mono ?_;rintro e w3 ⟨rfl,jl,hbl,hz3⟩;have jB3:=hB.below hbl sB;have cB3:=jB3.cell;have sB3:=jB3.lt;have cA3:=(jB3.alloc (.cells #[.int .i64 q,.bool false,.int .i64 0,.int .i64 0,ptr z,.slice none 0 0] 107)).cell;have cD3:=((jB3.alloc (.cells #[.int .i64 q,.bool false,.int .i64 0,.int .i64 0,ptr z,.slice none 0 0] 107)).alloc (.cells #[ptr (z+1)] 103)).cell;have rn:=((thr2.below (w':=w3) hbl).below (balloc (bsame w3) (.cells #[.int .i64 q,.bool false,.int .i64 0,.int .i64 0,ptr z,.slice none 0 0] 107))).below (balloc (bsame _) (.cells #[ptr (z+1)] 103));have jn:=Blk.new_at (w3.alloc (.cells #[.int .i64 q,.bool false,.int .i64 0,.int .i64 0,ptr z,.slice none 0 0] 107)) #[ptr (z+1)] #[ptr (z+1)] 103 (z+1+1) (by rw[World.size_alloc,hz3]) rfl))))
   all_goals
    obtain⟨xb',lb',oo',hS',hB',hs'⟩:=hfin.out _ _ _ _ jl hbl hz3 hown hst;go_wp2_with fail;go_roundw
    case rel=>exact⟨q+1,_,xb',lb',oo',by simp,by omega,hS',hB',hs'⟩
    case measure=>simp[intOf];omega
  ·obtain rfl:q=k:=by omega
   clear hlt;go_wp2_with fail;go_ret2;exact⟨_,oo,rfl,rfl,hS,hs.strict HF.out⟩
end
end Go.Proofs.YteehgedabdchcaaGreat
