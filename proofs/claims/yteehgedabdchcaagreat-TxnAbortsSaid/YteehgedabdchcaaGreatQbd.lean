import Derived.Test.YteehgedabdchcaaGreatQbb
set_option linter.all false
set_option maxRecDepth 1000000
set_option maxHeartbeats 16000000
namespace Go.Proofs.YteehgedabdchcaaGreat
open Hp
section
variable {S : Stt} {p : Nat → Nat} {k : Nat}
theorem Te.canon (h:Te S p)(hq:S.queue=[]):S.places (P4 p)=P4 p∧S.H.cnn (P4 p)=ringN∧S.H.cl∧OkP (lk S.H.cur) (P4 p)∧S.ok∧S.now=1∧(S.t 1).live=false:=by
 obtain⟨A,hs,hr,_,hn,_⟩:=h.ex;refine⟨ended_pl h.len h.d0 h.d1 hq _,hs.ring hr,hs.gc.cl,okp_C hs.ex,hs.ok,hs.now.symm.trans hn,?_⟩;obtain⟨x,hx⟩:=h.d1;rw[hx];rfl
structure Tg (S:Stt)(p:Nat→Nat)(k:Nat):Prop where
 ex:∃ A,Sim S ⟨S.lost,P4 p,S4⟩ A∧(∀ x,x<4→A.heap (x+1)=some (rgO x))∧A.hld∧(A.t 0).live=true∧(A.t 0).start=1∧(A.t 0).holds=[]∧A.holder=-1
 few:Few (S.t 0) k 60
 len:S.txs.length=2
theorem Te.begin (h:Te S p):(S.beginR 0).2=0∧Tg (S.beginR 0).1 p 0:=by
 obtain⟨A,hs,hr,hh,hn,hm,ho,h0⟩:=h.ex;have hi:0<S.txs.length:=by rw[h.len];omega
 have hiA:0<A.txs.length:=by rw[hs.len];exact hi
 obtain⟨g1,g2,g3,g4⟩:=hs.begin hi;have hl:(A.t 0).live=false:=by rw[hs.at hi];obtain⟨x,hx⟩:=h.d0;rw[hx];rfl
 have hl1:(A.t 1).live=false:=by rw[hs.at (by rw[h.len];omega)];obtain⟨x,hx⟩:=h.d1;rw[hx];rfl
 have hz:liveA A.txs=0:=by
  have hlen:A.txs.length=2:=by rw[hs.len];exact h.len
  unfold As.t at hl hl1;match ht:A.txs,hlen with
  | [a,b],_ =>
   rw[ht]at hl hl1;have hl:a.live=false:=hl;have hl1:b.live=false:=hl1;simp[liveA,hl,hl1]
 have e:A.beginR 0=(A.tx 0 ((A.t 0).begun A.now A.next),0):=by
  unfold As.beginR;rw[if_neg (by rw[hl];simp),if_pos (by rw[hz,hn,hm];decide)]
 have hbl:(S.beginR 0).1.lost=S.lost:=by unfold Stt.beginR;split;rfl;split<;>rfl
 rw[e]at g1 g2;have hh':=hh.begin hiA;rw[e]at hh';have et:(A.tx 0 ((A.t 0).begun A.now A.next)).t 0=(A.t 0).begun A.now A.next:=As.tx_t A hiA _;refine⟨g2,⟨⟨A.tx 0 ((A.t 0).begun A.now A.next),by rw[hbl];exact g1,hr,hh'.hld,by rw[et];rfl,by rw[et];exact hn,by rw[et];exact h0,ho⟩,g4 _ _ h.few,g3.trans h.len⟩⟩
theorem Tg.read (h:Tg S p k) {x:Nat} (hx:x<4) (hk:k<50):(S.read 0 (p x) 0).v=10+(x:Int)∧(S.read 0 (p x) 0).e=0∧Tg (S.read 0 (p x) 0).S p (k+1):=by
 obtain⟨A,hs,hr,hh,hl,hst,h0,ho⟩:=h.ex;have hi:0<S.txs.length:=by rw[h.len];omega
 have hiA:0<A.txs.length:=by rw[hs.len];exact hi
 have hC:S.H.C (p x):=hs.ex _ (List.mem_map.2 ⟨x,List.mem_range.2 hx,rfl⟩);have hsr:S.H.sr (p x)=x+1:=by
  have e:=hs.ey;rw[show ((⟨S.lost,P4 p,S4⟩:Cx).X).map S.H.sr=(List.range 4).map fun i=>S.H.sr (p i) from by show (P4 p).map _=_;rw[P4_map];rfl]at e
  exact List.map_inj_left.1 (show _=(List.range 4).map (·+1) from e) x (List.mem_range.2 hx)
 have g:=(hs.read hi hC 0 h.few (by omega)).deed hs (hh.read _ _).hld hi (h.few.mono (Nat.le_succ _))
 change Tw2 (S.read 0 (p x) 0) _ _ _ _ _ _ at g;rw[hsr]at g;have hlk:A.lookR 0 (x+1)=(A.tx 0 ((A.t 0).read (x+1)),0):=by
  unfold As.lookR;rw[if_neg (by omega),hr x hx]
  show (if clashB 0 (A.t 0).start 2=true then _ else _)=_
  rw[hst,if_neg (by decide)];rfl
 have hf:A.fieldsR 0 (x+1)=(A.tx 0 ((A.t 0).read (x+1)),0):=by
  unfold As.fieldsR;rw[hlk];show (_,if (0:Int)=0 then (if A.heap.wk (x+1) then _ else _) else _)=_
  unfold Ag.wk;rw[hr x hx];rfl
 have hR:A.readR 0 (x+1) 0=⟨A.tx 0 ((A.t 0).read (x+1)),10+(x:Int),0⟩:=by
  unfold As.readR;rw[hf];show (if (0:Int)≠0 then _ else _)=_
  rw[if_neg (by simp)]
  unfold Ag.num;rw[hr x hx];rfl
 have hD:A.deedR 0 (A.readR 0 (x+1) 0)=⟨A.tx 0 ((A.t 0).read (x+1)),10+(x:Int),0⟩:=by
  unfold As.deedR;rw[if_pos hl,hR];rfl
 rw[hD]at g;have et:(A.tx 0 ((A.t 0).read (x+1))).t 0=(A.t 0).read (x+1):=As.tx_t A hiA _;have hlS:(S.t 0).live=true:=by have:=hl;rw[hs.at hi]at this;exact this
 have hlost:(S.read 0 (p x) 0).S.lost=S.lost:=by
  rcases deed_mv (Mv.readR 0 S (p x) 0) hi hlS with ⟨_,k,_⟩|⟨_,k,_⟩<;>exact k.lost
 refine⟨g.v,g.e,⟨⟨A.tx 0 ((A.t 0).read (x+1)),by rw[hlost];exact g.sim,hr,(hh.setx (i:=0) (x:=(A.t 0).read (x+1)) hiA rfl rfl).hld,by rw[et];exact hl,by rw[et];exact hst,by rw[et];exact h0,ho⟩,g.few,g.len.trans h.len⟩⟩
theorem Tg.commit (h:Tg S p k):(S.commit 0).v=0∧(S.commit 0).e=0:=by
 obtain⟨A,hs,hr,hh,hl,hst,h0,ho⟩:=h.ex;have hi:0<S.txs.length:=by rw[h.len];omega
 have hiA:0<A.txs.length:=by rw[hs.len];exact hi
 have hlS:(S.t 0).live=true:=by have:=hl;rw[hs.at hi]at this;exact this
 have g:=(hs.commit hi hlS h.few).deed hs (hh.commit hiA).hld hi h.few;change Tw2 (S.commit 0) _ _ _ _ _ _ at g;have e:A.commitR 0=⟨A.tx 0 (A.t 0).ended,0,0⟩:=by unfold As.commitR;rw[if_pos ⟨h0,by rw[ho];decide⟩]
 have hD:A.deedR 0 (A.commitR 0)=⟨A.tx 0 (A.t 0).ended,0,0⟩:=by unfold As.deedR;rw[if_pos hl,e];rfl
 rw[hD]at g;exact⟨g.v,g.e⟩
end
instance : DecidableEq AO := fun a b => decidable_of_iff (a.shp = b.shp ∧ a.fr = b.fr ∧ a.sec = b.sec ∧ a.ptrs = b.ptrs ∧ a.nums = b.nums) (by cases a; cases b; simp)
namespace Yd
def s2:Shp:=⟨2,2,false,false⟩
def pl (j:Nat):Nat:=1+8*j
def F:Stt:=Stt.fresh 400 2 60 60 1073741824
def B:Nat→Stt
 | 0=>(F.beginR 0).1
 | j+1=>((B j).alloc 0 s2).S
def C1 (S:Stt)(j:Nat):Stt:=(S.put 0 (pl j) 0 (pl ((j+1)%4))).S
def C:Nat→Stt
 | 0=>B 4
 | j+1=>((C1 (C j) j).write 0 (pl j) 0 (10+j)).S
def Y:Stt:=((C 4).commit 0).S
theorem fB:∀ j,j<4→(B j).chk 0=true∧((B j).alloc 0 s2).v=pl j∧((B j).alloc 0 s2).e=0∧(B j).H.roomy s2=true:=by decide +kernel
theorem fC:∀ j,j<4→(C j).chk 0=true∧((C j).put 0 (pl j) 0 (pl ((j+1)%4))).e=0∧(C1 (C j) j).chk 0=true∧((C1 (C j) j).write 0 (pl j) 0 (10+j)).e=0:=by decide +kernel
theorem fY:(F.beginR 0).2=0∧(C 4).chk 0=true∧((C 4).commit 0).e=0∧(Y.beginR 1).2=0∧Y.queue=[]∧Y.txs.length=2∧Y.chk 1=true:=by decide +kernel
structure Yc (S:Stt)(A:As)(k:Nat):Prop where
 sim:Sim S ⟨[],[],[]⟩ A
 hld:A.hld
 few:Few (S.t 0) k 60
 len:S.txs.length=2
section
variable {S : Stt} {A : As} {k : Nat}
theorem Yc.i0 (h:Yc S A k):0<S.txs.length∧0<A.txs.length:=by have:=h.len;have:=h.sim.len;omega
theorem Yc.alloc (h:Yc S A k)(hr:S.H.roomy s2=true)(hk:k<60):Yc (S.alloc 0 s2).S (A.deedR 0 (A.allocR 0 s2 false)).A (k+1):=by
 have hh:=h.hld.alloc h.i0.2 (fresh_none h.sim) s2 false;have g:=h.sim.alloc h.i0.1 (s:=s2) (by unfold Shp.ok;decide) h.few hk
 rw[hr]at g;have g:=g.deed h.sim hh.hld h.i0.1 (h.few.mono (Nat.le_succ _));exact⟨g.sim,(HL.deed h.hld hh h.i0.2).hld,g.few,g.len.trans h.len⟩
theorem Yc.put (h:Yc S A k){p q a b:Nat}(hp:S.H.C p)(hq:S.H.C q)(ha:S.H.sr p=a)(hb:S.H.sr q=b)(hk:k+1<60):Yc (S.put 0 p 0 q).S (A.deedR 0 (A.putR 0 a 0 b)).A (k+3):=by
 subst ha hb;have hh:=h.hld.put h.i0.2 (S.H.sr p) 0 (S.H.sr q);have g:=(h.sim.put1 h.hld h.i0.1 hp 0 hq h.few hk).deed h.sim hh.hld h.i0.1 (h.few.mono (by omega))
 exact⟨g.sim,(HL.deed h.hld hh h.i0.2).hld,g.few,g.len.trans h.len⟩
theorem Yc.write (h:Yc S A k){p a:Nat}(hp:S.H.C p)(ha:S.H.sr p=a){v:Int}(hv:-9223372036854775808≤v∧v≤9223372036854775807)(hk:k+1<60):Yc (S.write 0 p 0 v).S (A.deedR 0 (A.writeR 0 a 0 v)).A (k+3):=by
 subst ha;have hh:=h.hld.write h.i0.2 (S.H.sr p) 0 v;have g:=(h.sim.write h.hld h.i0.1 hp 0 hv h.few hk).deed h.sim hh.hld h.i0.1 (h.few.mono (by omega))
 exact⟨g.sim,(HL.deed h.hld hh h.i0.2).hld,g.few,g.len.trans h.len⟩
end
theorem Cs {H:Hp}{p:Nat}(h:(lk H.cur p).isSome=true):H.C p:=.inr fun e=>by rw[e]at h;cases h
def FA:As:=As.fresh 400 2 1073741824
def BA:Nat→As
 | 0=>(FA.beginR 0).1
 | j+1=>((BA j).deedR 0 ((BA j).allocR 0 s2 false)).A
def CA1 (A:As)(j:Nat):As:=(A.deedR 0 (A.putR 0 (j+1) 0 ((j+1)%4+1))).A
def CA:Nat→As
 | 0=>BA 4
 | j+1=>((CA1 (CA j) j).deedR 0 ((CA1 (CA j) j).writeR 0 (j+1) 0 (10+j))).A
def YA:As:=((CA 4).deedR 0 ((CA 4).commitR 0)).A
def YB:As:=(YA.beginR 1).1
theorem Fok:F.ok:=Stt.fresh_ok (n:=400) (k:=2) (r:=60) (u:=60) (m:=1073741824) (by omega) (by omega) (by omega) (by omega) (by omega) (by omega) (by omega)
theorem sF:Yc F FA 0:=by
 have hgc:Gc (Hp.fresh 400) [] (fun _=>none):=by
  refine⟨Fok.H,?_,fun p b hp=>?_,fun y hy=>(by cases hy),fun y hy=>by cases hy⟩
  ·exact⟨⟨rfl,rfl⟩,fun _=>.inl rfl,fun _ _ _ h=>(by cases h),fun _ _ h=>(by cases h),fun _ _ h=>(by cases h),fun _ _ h=>(by cases h),fun _ _ _ _ h=>(by cases h),fun _ _ h=>(by cases h),fun _ _ h=>(by cases h),fun _ _=>rfl,fun s hs=>(by cases hs),fun s hs=>(by cases hs),rfl,List.nodup_nil⟩
  ·cases hp
 refine⟨⟨Fok,hgc,rfl,rfl,rfl,rfl,rfl,rfl,rfl,rfl,fun p hp=>?_,fun p hp=>(by cases hp),rfl,rfl⟩,⟨fun i x hx=>?_,fun i x hx=>?_⟩,⟨by decide,by decide,by decide,by decide,by decide,by decide⟩,rfl⟩
 ·rcases places_mem.1 hp with⟨z,hz,_⟩|⟨x,hx,hp⟩
  ·cases hz
  ·rw[(List.mem_replicate.1 hx).2]at hp
   simp[Tx.places,Lg.roots,Tx.fresh,Lg.fresh]at hp
 ·have:=(List.mem_replicate.1 (List.mem_of_getElem? hx)).2;subst this;intro z hz;cases hz
 ·have:=(List.mem_replicate.1 (List.mem_of_getElem? hx)).2;subst this;intro z hz;cases hz
theorem sB:∀ j,j≤4→Yc (B j) (BA j) j
 | 0,_=>by
  have h:=sF;obtain⟨g1,_,g3,g4⟩:=h.sim.begin h.i0.1;exact⟨g1,(h.hld.begin h.i0.2).hld,g4 _ _ h.few,g3.trans h.len⟩
 | j+1,hj=>(sB j (by omega)).alloc (fB j (by omega)).2.2.2 (by omega)
theorem qC:∀ j,j<5→∀ i,i<4→(lk (C j).H.cur (pl i)).isSome=true∧(C j).H.sr (pl i)=i+1:=by decide +kernel
theorem qC1:∀ j,j<4→(lk (C1 (C j) j).H.cur (pl j)).isSome=true∧(C1 (C j) j).H.sr (pl j)=j+1:=by decide +kernel
theorem sC:∀ j,j≤4→Yc (C j) (CA j) (4+6*j)
 | 0,_=>sB 4 (Nat.le_refl _)
 | j+1,hj=>by
  have q1:=qC j (by omega) j (by omega)
  have q2:=qC j (by omega) ((j+1)%4) (Nat.mod_lt _ (by omega))
  have q3:=qC1 j (by omega)
  have h1:=(sC j (by omega)).put (Cs q1.1) (Cs q2.1) q1.2 q2.2 (by omega)
  exact h1.write (v:=10+(j:Int)) (Cs q3.1) q3.2 (by omega) (by omega)
theorem lC:((C 4).t 0).live=true:=by decide +kernel
theorem sY:Sim Y ⟨[],[],[]⟩ YA∧YA.hld:=by
 have h:=sC 4 (Nat.le_refl _);have hh:=h.hld.commit h.i0.2;have g:=(h.sim.commit h.i0.1 lC h.few).deed h.sim hh.hld h.i0.1 h.few;exact⟨g.sim,(HL.deed h.hld hh h.i0.2).hld⟩
theorem qY:∀ i,i<4→(lk Y.H.cur (pl i)).isSome=true∧Y.H.sr (pl i)=i+1:=by decide +kernel
theorem rY:∀ x,x<4→YA.heap (x+1)=some (rgO x):=by decide +kernel
theorem mY:YB.txs.length=2∧(YB.t 0).live=false∧(YB.t 0).holds=[]∧YB.now=1∧YB.most=1073741824∧YB.queue=[]∧YB.holder=-1∧(YB.t 1).holds=[]∧(YB.t 1).took=[]∧YB.ser=4:=by decide +kernel
theorem sX:Sim Y ⟨[],P4 pl,S4⟩ YA:=by
 have h:=sY.1.reX (X:=P4 pl) fun p hp=>by
  obtain⟨i,hi,rfl⟩:=List.mem_map.1 hp;exact Cs (qY i (List.mem_range.1 hi)).1
 have e:(P4 pl).map Y.H.sr=S4:=by rw[P4_map];exact List.map_congr_left fun i hi=>(qY i (List.mem_range.1 hi)).2
 rw[e]at h;exact h
theorem tx_end {x:Tx}(h1:x.live=false)(h2:x.log.reads=[])(h3:x.log.keeps=[])(h4:x.log.holds=[])(h5:x.log.undos=[])(h6:x.took=[]):∃ y:Tx,x=y.ended:=by
 refine⟨x,?_⟩;obtain⟨a,b,c,⟨d,e,f,g,i,j⟩,k⟩:=x;simp only at h1 h2 h3 h4 h5 h6;subst h1 h2 h3 h4 h5 h6;rfl
theorem before:Y.places (P4 pl)=P4 pl∧Y.H.cnn (P4 pl)=ringN∧Y.H.cl∧OkP (lk Y.H.cur) (P4 pl)∧Y.ok:=
 ⟨by decide +kernel,sX.ring rY,sX.gc.cl,okp_C sX.ex,sX.ok⟩
theorem start:Ta (Y.beginR 1).1 pl 0:=by
 obtain⟨g1,_,g3,g4⟩:=sX.begin (i:=1) (by decide +kernel)
 change Sim (Y.beginR 1).1 ⟨[],P4 pl,S4⟩ YB at g1;obtain⟨m1,m2,m3,m4,m5,m6,m7,m8,m9,m10⟩:=mY;have hlost:(Y.beginR 1).1.lost=[]:=by decide +kernel
 have hu:(YB.t 1).undos=[]:=List.length_eq_zero_iff.1 (by decide +kernel)
 have hs:∀ x,x<4→YB.heap.sec (x+1)=2:=by decide +kernel
 have hl:(YB.t 1).live=true:=by decide +kernel
 have hh:YB.hld:=(sY.2.begin (i:=1) (by decide +kernel)).hld
 have an:∀ s,YB.ser<s→YB.heap s=none:=fun s hs=>g1.gc.cor.an s (by rw[←g1.ser];exact hs)
 refine⟨⟨YB,by rw[hlost];exact g1,⟨m1,m2,m3,m4,m5,m6,.inl m7,hh,fun x hx=>⟨rgO x,?_,rfl⟩,fun x hx=>.inl (hs x hx),fun z hz=>?_,fun x hx h3=>?_,fun s a h4 ha=>?_,fun k=>?_,m9,an,g1.gc.cor.az,?_⟩,by rw[m10];decide⟩,?_,⟨?_,?_⟩,fun k=>?_⟩
 ·rw[hu];exact rY x hx
 ·rw[m8]at hz;cases hz
 ·rw[hs x hx]at h3;cases h3
 ·rw[an s (by rw[m10];exact h4)]at ha;cases ha
 ·rw[hl]at k;cases k
 ·rw[m10];decide
 ·exact⟨by decide +kernel,by decide +kernel,by decide +kernel,by decide +kernel,by decide +kernel,by decide +kernel⟩
 ·exact tx_end (by decide +kernel) (by decide +kernel) (by decide +kernel) (by decide +kernel) (List.length_eq_zero_iff.1 (by decide +kernel)) (by decide +kernel)
 ·exact⟨by decide +kernel,by decide +kernel,by decide +kernel,by decide +kernel,by decide +kernel,by decide +kernel⟩
 ·have:((Y.beginR 1).1.t 1).live=true:=by decide +kernel
  rw[this]at k;cases k
end Yd
end Go.Proofs.YteehgedabdchcaaGreat
