import Derived.Test.YteehgedabdchcaaGreatQau
import Derived.Deep.RegionHeld
import Derived.OrdersHeld
set_option linter.all false
set_option maxRecDepth 1000000
set_option maxHeartbeats 16000000
namespace Go.Proofs.YteehgedabdchcaaGreat
open Hp
section
variable {S : Stt} {L : Cx} {A : As} {i p k m : Nat}
def SameAt (H H':Hp)(p:Nat):Prop:=∀ b,lk H.cur p=some b→∃ b',lk H'.cur p=some b'∧b'.shp=b.shp
theorem Few.holding {x:Tx}(h:Few x k m)(p v:Nat):Few (x.holding p v) (k+1) m:=
 ⟨Nat.le_succ_of_le h.r,Nat.le_succ_of_le h.kp,by have:=h.h;simp[Tx.holding];omega,Nat.le_succ_of_le h.u,h.mr,h.mu⟩
theorem holding_places {x:Tx}{P:Nat→Prop}(hx:∀ q ∈ x.places,P q)(hp:P p)(v:Nat):∀ q ∈ (x.holding p v).places,P q:=by
 intro q hq;unfold Tx.places Lg.roots Tx.holding at hq;unfold Tx.places Lg.roots at hx;grind
theorem undo_places {x:Tx}{P:Nat→Prop}{u:Un}(hx:∀ q ∈ x.places,P q)(hp:∀ q ∈ u.places,P q):∀ q ∈ (x.undo u).places,P q:=by
 intro q hq;unfold Tx.places Lg.roots Tx.undo at hq;unfold Tx.places Lg.roots at hx;grind
theorem Tx.ab_holding (g:Nat→Nat)(x:Tx)(p v:Nat):(x.holding p v).ab g=(x.ab g).holding (g p) v:=by
 unfold Tx.ab Tx.holding ATx.holding at1;simp
theorem Tx.ab_undo (g:Nat→Nat)(x:Tx)(u:Un):(x.undo u).ab g=(x.ab g).undo (u.at' g):=by
 unfold Tx.ab Tx.undo ATx.undo;simp
theorem Sim.mark (h:Sim S L A) (hi:i<S.txs.length) (hp:S.H.C p) {v:Nat} (hv:v≤1099511627776) (hm:(S.t i).log.holds.length<(S.t i).log.mu) :
  Sim ((S.tx i ((S.t i).holding p v)).ownR i p) L ((A.tx i ((A.t i).holding (S.H.sr p) v)).h (A.heap.upd (S.H.sr p) fun a=>a.second (2*i+1))):=by
 have h8:=h.ok.t8;have h1:=h.setx (i:=i) (x:=(S.t i).holding p v) (Stt.ok_log h.ok hi (Lg.fit_hold (h.ok.lgt hi) p v hv hm)) (holding_places (h.tpl hi) hp v);rw[Tx.ab_holding,←h.at hi]at h1;exact h1.second (p:=p) hp (v:=2*i+1) (by omega) (fun _=>by omega)
theorem hold_even (h:Sim S L A)(hh:A.hld)(hi:i<S.txs.length)(hp:S.H.C p)(he:S.H.sec p%2≠1):∀ z ∈ (S.t i).log.holds,z.1≠p:=by
 rintro z hz rfl
 have h1:=hh.h i ((S.t i).ab S.H.sr) (by rw[h.tx,List.getElem?_map,Stt.t_get hi];rfl) (S.H.sr z.1,z.2) (List.mem_map.2 ⟨z,hz,rfl⟩)
 rw[h.sec hp]at h1;omega
theorem Sim.hold (h:Sim S L A)(hh:A.hld)(hi:i<S.txs.length)(hp:S.H.C p)(hf:Few (S.t i) k m)(hm:(S.t i).log.holds.length<m) :
  Sim (S.holdR i p).1 L (A.hold i (S.H.sr p))∧(S.holdR i p).2=true∧(S.holdR i p).1.txs.length=S.txs.length∧Few ((S.holdR i p).1.t i) (k+1) m∧((S.holdR i p).1.t i).log.undos=(S.t i).log.undos ∧
  (∀ x,(S.holdR i p).1.H.sr x=S.H.sr x)∧(∀ x,(S.holdR i p).1.H.C x↔S.H.C x)∧SameAt S.H (S.holdR i p).1.H p:=by
 unfold Stt.holdR As.hold;rw[h.sec hp];by_cases e:S.H.sec p%2=1
 ·rw[if_pos e,if_pos e];exact⟨h,rfl,rfl,hf.mono (by omega),rfl,fun _=>rfl,fun _=>Iff.rfl,fun b hb=>⟨b,hb,rfl⟩⟩
 ·rw[if_neg e,if_neg e]
  have hmu:=hf.mu;have hl:S.holdLR i p (S.H.sec p/2)=(S.tx i ((S.t i).holding p (S.H.sec p/2)),true):=by
   unfold Stt.holdLR;rw[if_pos];unfold mayHold;simp only[Bool.and_eq_true,decide_eq_true_eq];exact⟨hold_even h hh hi hp e,by omega⟩
  rw[hl];have h2:=(h.ok.sec p).2;have h3:=h.mark hi hp (v:=S.H.sec p/2) (by omega) (by omega)
  have hsr:(∀ x,((S.tx i ((S.t i).holding p (S.H.sec p/2))).ownR i p).H.sr x=S.H.sr x)∧(∀ x,((S.tx i ((S.t i).holding p (S.H.sec p/2))).ownR i p).H.C x↔S.H.C x)∧SameAt S.H ((S.tx i ((S.t i).holding p (S.H.sec p/2))).ownR i p).H p:=by
   show (∀ x,(S.H.setSecondR p (2*i+1)).1.sr x=S.H.sr x)∧(∀ x,(S.H.setSecondR p (2*i+1)).1.C x↔S.H.C x)∧SameAt S.H (S.H.setSecondR p (2*i+1)).1 p;unfold Hp.setSecondR
   cases hb:lk S.H.cur p with
   | none=>exact⟨fun _=>rfl,fun _=>Iff.rfl,fun b hb=>⟨b,hb,rfl⟩⟩
   | some b =>
    have e1:=setC_up (b':=b.setSecond (2*i+1)) hb;refine⟨fun x=>by unfold Hp.sr;rw[e1];exact srF_set hb (b':=b.setSecond (2*i+1)) rfl x,fun x=>by unfold Hp.C;rw[e1];exact CF_setp hb x,fun d hd=>?_⟩
    rw[hb]at hd;injection hd with hd;subst hd;exact⟨b.setSecond (2*i+1),by rw[e1];unfold setC;rw[if_pos rfl],rfl⟩
  refine⟨h3,rfl,Stt.tx_len _ _ _,?_,?_,hsr⟩
  ·show Few ((S.tx i ((S.t i).holding p (S.H.sec p/2))).t i) _ _
   rw[Stt.tx_t hi];exact hf.holding _ _
  ·show ((S.tx i ((S.t i).holding p (S.H.sec p/2))).t i).log.undos=_
   rw[Stt.tx_t hi];rfl
theorem Few.undo {x:Tx}(h:Few x k m)(u:Un):Few (x.undo u) (k+1) m:=
 ⟨Nat.le_succ_of_le h.r,Nat.le_succ_of_le h.kp,Nat.le_succ_of_le h.h,by have:=h.u;simp[Tx.undo];omega,h.mr,h.mu⟩
theorem Sim.chg (h:Sim S L A) (hh:A.hld) (hi:i<S.txs.length) (hp:S.H.C p) (hf:Few (S.t i) k m) (hk:k<m) {u:Un} {set:Hp→Hp×Nat} {f:AO→AO}
  (h1:-9223372036854775808≤u.old∧u.old≤9223372036854775807) (h2:u.kind=1→0≤u.old) (hu:∀ q ∈ u.places,S.H.C q)
  (hs:∀ {S':Stt} {A':As},Sim S' L A'→(∀ x,S'.H.sr x=S.H.sr x)→(∀ x,S'.H.C x↔S.H.C x)→(∀ x,A'.heap.wk x=A.heap.wk x)→Sim (S'.h (set S'.H).1) L (A'.h (A'.heap.upd (S.H.sr p) f))∧(SameAt S.H S'.H p→(set S'.H).2=0)) :
  Tw2 (S.chg i p u set) L (A.chg i (S.H.sr p) (u.at' S.H.sr) f) i S.txs.length (k+2) m:=by
 obtain⟨g1,g2,g3,g4,g5,g6,g7,g8⟩:=h.hold hh hi hp hf (by have:=hf.h;omega)
 unfold Stt.chg As.chg;rw[if_neg (by rw[g2];simp)]
 have hi':i<(S.holdR i p).1.txs.length:=by rw[g3];exact hi
 have hul:((S.holdR i p).1.t i).log.undos.length<((S.holdR i p).1.t i).log.mu:=by rw[g5];have:=hf.u;have:=g4.mu;omega
 have hur:(S.holdR i p).1.undoR i u=((S.holdR i p).1.tx i (((S.holdR i p).1.t i).undo u),true):=by unfold Stt.undoR;rw[if_pos hul]
 rw[hur,if_neg (by simp)]
 dsimp only;have h3:=g1.setx (i:=i) (x:=((S.holdR i p).1.t i).undo u) (Stt.ok_log g1.ok hi' (Lg.fit_undo (g1.ok.lgt hi') u h1 h2 hul)) (undo_places (g1.tpl hi') fun q hq=>(g7 q).2 (hu q hq))
 rw[Tx.ab_undo,←g1.at hi',Un.at_congr (g:=(S.holdR i p).1.H.sr) (g':=S.H.sr) fun q _=>g6 q]at h3
 have hwk:∀ x,(A.hold i (S.H.sr p)).heap.wk x=A.heap.wk x:=by
  intro x;unfold As.hold;split
  ·rfl
  ·exact upd_wk (A:=A.heap) (f:=fun a=>a.second (2*i+1)) (fun _=>rfl) x
 obtain⟨h4,h5⟩:=hs h3 g6 g7 hwk;exact⟨h4,rfl,by show (((set _).2:Nat):Int)=0;rw[h5 g8];rfl,by show Few ((((S.holdR i p).1.tx i _)).t i) _ _;rw[Stt.tx_t hi'];exact (g4.undo u).mono (by omega),by show (((S.holdR i p).1.tx i _)).txs.length=_;rw[Stt.tx_len];exact g3⟩
end
structure Twp (R:Res)(L:Cx)(Q:ARes)(i n k m:Nat):Prop where
 sim:Sim R.S L Q.A
 v:R.e=0→∃ x:Nat,R.v=x∧R.S.H.C x∧(R.S.H.sr x:Int)=Q.v
 e:R.e=Q.e
 few:Few (R.S.t i) k m
 len:R.S.txs.length=n
section
variable {S : Stt} {L : Cx} {A : As} {i p k m : Nat}
theorem lookA_hld {A:As}(h:A.hld)(i s:Nat):(A.lookR i s).1.hld:=by
 unfold As.lookR;split
 ·exact h
 ·split
  ·exact h
  ·split
   ·exact h
   ·refine⟨fun j x hx z hz=>?_,fun j x hx u hu=>?_⟩
    ·change (A.txs.set i _)[j]?=some x at hx
     rw[List.getElem?_set]at hx;split at hx
     ·split at hx
      ·rename_i e hl;injection hx with hx;subst hx e
       have ht:A.txs[i]?=some (A.t i):=by unfold As.t;rw[List.getD_eq_getElem?_getD,List.getElem?_eq_getElem hl];rfl
       exact h.h i _ ht z hz
      ·cases hx
     ·exact h.h j x hx z hz
    ·change (A.txs.set i _)[j]?=some x at hx
     rw[List.getElem?_set]at hx;split at hx
     ·split at hx
      ·rename_i e hl;injection hx with hx;subst hx e
       have ht:A.txs[i]?=some (A.t i):=by unfold As.t;rw[List.getD_eq_getElem?_getD,List.getElem?_eq_getElem hl];rfl
       exact h.u i _ ht u hu
      ·cases hx
     ·exact h.u j x hx u hu
theorem fields0 (he:¬(S.fieldsR i p).2≠0):(S.lookR i p).2.1=0:=by
 unfold Stt.fieldsR at he;dsimp only at he;grind
theorem fieldsA_wk {A:As}{s:Nat}(he:¬(A.fieldsR i s).2≠0):A.heap.wk s=false:=by
 unfold As.fieldsR at he;grind
theorem fieldsA_heap (A:As)(i s:Nat):(A.fieldsR i s).1.heap=A.heap:=lookA_heap A i s
theorem Sim.write (h : Sim S L A) (hh : A.hld) (hi : i < S.txs.length) (hp : S.H.C p) (j : Nat) {v : Int} (hv : -9223372036854775808 ≤ v ∧ v ≤ 9223372036854775807) (hf : Few (S.t i) k m) (hk : k + 1 < m) :
    Tw2 (S.writeR i p j v) L (A.writeR i (S.H.sr p) j v) i S.txs.length (k + 3) m := by
  obtain ⟨h1, h2⟩ := h.fields hi hp hf (by omega)
  have hb := Stt.ok.num_bd h.ok p j
  unfold Stt.writeR As.writeR
  rw [← h2]
  by_cases e : (S.fieldsR i p).2 ≠ 0
  · rw [if_pos e, if_pos e]; exact ⟨h1.sim, rfl, rfl, h1.few.mono (by omega), h1.len⟩
  · rw [if_neg e, if_neg e]
    obtain ⟨b, a, g1, g2, g3, g4⟩ := h.obj hp (h.nz hi hp (fields0 e))
    have hn : (S.H.numR p j).1 = (A.heap.num (S.H.sr p) j).1 ∧ ((S.H.numR p j).2 : Int) = (A.heap.num (S.H.sr p) j).2 := by
      unfold Hp.numR Ag.num; rw [g1, g3]; dsimp only; rw [g4.nums]
      cases b.nums[j]? <;> exact ⟨rfl, rfl⟩
    rw [h1.hh, ← hn.1, ← hn.2]
    by_cases e2 : (S.H.numR p j).2 ≠ 0
    · rw [if_pos e2, if_pos (by simpa using e2)]; exact ⟨h1.sim, rfl, rfl, h1.few.mono (by omega), h1.len⟩
    · rw [if_neg e2, if_neg (by simpa using e2)]
      have hj : j < b.shp.d := by
        unfold Hp.numR at e2; rw [g1] at e2; dsimp only at e2
        rw [← (h.ok.H.obk g1).ln]
        cases hj : b.nums[j]? with
        | none => rw [hj] at e2; simp at e2
        | some n => exact (List.getElem?_eq_some_iff.1 hj).1
      have h0 := h1.hh
      have hC : ∀ x, (S.fieldsR i p).1.H.C x ↔ S.H.C x := fun x => by rw [h0]
      have := h1.sim.chg (i := i) (p := p) (by exact lookA_hld hh i _) (by rw [h1.len]; exact hi) (by rw [h0]; exact hp) h1.few hk (u := ⟨2, p, j, (S.H.numR p j).1⟩) (set := fun H => H.setNumR p j v) (f := fun a => a.num j v) hb (fun e => by cases e)
        (fun q hq => by have : q = p := by simpa [Un.places] using hq
                        subst this; rw [h0]; exact hp)
        (fun {S' A'} hs hsr hC' hwk => by
          rw [h0] at hsr hC' ⊢
          have := hs.setnum (p := p) ((hC' p).2 hp) j hv
          rw [hsr] at this
          refine ⟨this, fun hsm => ?_⟩
          obtain ⟨b', e3, e4⟩ := hsm b g1
          show (S'.H.setNumR p j v).2 = 0
          unfold Hp.setNumR; rw [e3]; dsimp only; rw [if_neg (by rw [e4]; omega)])
      rw [h0] at this
      have e5 : (⟨2, p, j, (S.H.numR p j).1⟩ : Un).at' S.H.sr = ⟨2, S.H.sr p, j, (S.H.numR p j).1⟩ := by simp [Un.at']
      rw [e5, h1.len] at this
      exact ⟨this.sim, this.v, this.e, this.few.mono (by omega), this.len⟩
theorem Sim.free (h : Sim S L A) (hh : A.hld) (hi : i < S.txs.length) (hp : S.H.C p) (hf : Few (S.t i) k m) (hk : k + 1 < m) :
    Tw2 (S.freeR i p) L (A.freeR i (S.H.sr p)) i S.txs.length (k + 3) m := by
  obtain ⟨h1, h2, _⟩ := h.look hi hp hf (by omega)
  unfold Stt.freeR As.freeR
  rw [← h2]
  by_cases e : (S.lookR i p).2.1 ≠ 0
  · rw [if_pos e, if_pos e]; exact ⟨h1.sim, rfl, rfl, h1.few.mono (by omega), h1.len⟩
  · rw [if_neg e, if_neg e]
    obtain ⟨b, a, g1, g2, g3, g4⟩ := h.obj hp (h.nz hi hp (by simpa using e))
    have h0 := h1.hh
    have := h1.sim.chg (i := i) (p := p) (by exact lookA_hld hh i _) (by rw [h1.len]; exact hi) (by rw [h0]; exact hp) h1.few hk (u := ⟨3, p, 0, 0⟩) (set := fun H => H.setFreedR p true) (f := fun a => a.free true) (by dsimp only; omega) (fun e => by cases e)
      (fun q hq => by have : q = p := by simpa [Un.places] using hq
                      subst this; rw [h0]; exact hp)
      (fun {S' A'} hs hsr hC' hwk => by
        rw [h0] at hsr hC' ⊢
        have := hs.freed (p := p) ((hC' p).2 hp) true
        rw [hsr] at this
        refine ⟨this, fun hsm => ?_⟩
        obtain ⟨b', e3, e4⟩ := hsm b g1
        unfold Hp.setFreedR; rw [e3])
    rw [h0] at this
    have e5 : (⟨3, p, 0, 0⟩ : Un).at' S.H.sr = ⟨3, S.H.sr p, 0, 0⟩ := by simp [Un.at']
    rw [e5, h1.len] at this
    grind
theorem Gc.ptr {H:Hp}{L:List Nat}{A:Ag}(h:Gc H L A){p:Nat}{b:Ob}{a:AO}(hb:lk H.cur p=some b)(ha:A b.serial=some a)(hl:Like (lk H.cur) (lko H.old) L b a)(j:Nat) :
  Gc (H.ptrR p j).1 L A∧Evo H (H.ptrR p j).1∧(H.ptrR p j).1.serial=H.serial∧((H.ptrR p j).2.2=if (b.ptrs[j]?).isSome then 0 else 71)∧∀ x,b.ptrs[j]?=some x→(H.ptrR p j).1.C (H.ptrR p j).2.1∧(H.ptrR p j).1.sr (H.ptrR p j).2.1=H.sr x:=by
 unfold Hp.ptrR;rw[hb];dsimp only
 cases hj:b.ptrs[j]? with
 | none=>exact⟨h,Evo.refl H,rfl,rfl,fun x hx=>by cases hx⟩
 | some x =>
  dsimp only;have hv:H.V x:=h.cor.cp _ _ hb x (List.mem_of_getElem? hj);by_cases ho:(lko H.old x).isSome=true
  ·rw[if_pos ho]
   obtain⟨g1,g2,g3,g4⟩:=h.moved hv;have hb':lk (H.moved x).1.cur p=some b:=lk_moved hb;have hok:=h.wf.obk hb;obtain⟨a',h1,h2⟩:=g1.cor.hp _ _ (obF_c hb');rw[ha]at h1;injection h1 with h1;subst h1;have hset:(b.ptrs.set j (H.moved x).2).map (H.moved x).1.sr=b.ptrs.map (H.moved x).1.sr:=by
    rw[map_set',g4,←g2.s x hv];refine List.ext_getElem? fun n=>?_
    rw[List.getElem?_set,List.getElem?_map];split
    ·rename_i e;subst e;rw[hj];split
     ·rfl
     ·rename_i hn;rw[List.length_map]at hn;exact absurd (List.getElem?_eq_some_iff.1 hj).1 hn
    ·rfl
   have hl':Like (lk (H.moved x).1.cur) (lko (H.moved x).1.old) L (b.setPtr j (H.moved x).2) a:=⟨h2.shp,h2.fr,h2.sec,h2.nums,by show _=if b.serial ∈ L then [0] else a.ptrs;rw[←h2.ptrs];exact hset⟩
   obtain⟨k1,k2,k3,k4⟩:=g1.wr (L':=L) hb' (Ob.setPtr_ok hok j _ (moved_bd h.wf.ok (hok.ptr x (List.mem_of_getElem? hj)))) rfl rfl (fun y hy=>by
    rcases List.mem_or_eq_of_mem_set (show y ∈ b.ptrs.set j _ from hy) with h5|rfl
    ·exact .inl h5
    ·exact .inr g3) (fun _ _=>Iff.rfl) (fun _ h=>.inl h) g1.cor.nd hl'
   have hA:updA A b.serial a=A:=by funext y;unfold updA;split<;>simp[*]
   rw[hA]at k1;refine⟨k1,g2.trans k2,(moved_same (H:=H) x).2.2.2.2.1,rfl,fun y hy=>?_⟩
   injection hy with hy;subst hy;exact⟨(k4 _).2 g3,(k3 _).trans g4⟩
  ·rw[if_neg ho]
   refine⟨h,Evo.refl H,rfl,rfl,fun y hy=>?_⟩
   injection hy with hy;subst hy;refine⟨?_,rfl⟩;rcases hv with h1|h1|h1
   ·exact .inl h1
   ·exact .inr h1
   ·exact absurd (Option.isSome_iff_ne_none.2 h1) ho
theorem ptrR_size (H:Hp)(p j:Nat):(H.ptrR p j).1.size=H.size:=by
 unfold Hp.ptrR;split
 ·rfl
 ·split
  ·rfl
  ·split
   ·exact (moved_same _).1
   ·rfl
theorem Sim.ptr (h : Sim S L A) (hp : S.H.C p) (h0 : p ≠ 0) (j : Nat) :
    Sim (S.h (S.H.ptrR p j).1) L A ∧ Evo S.H (S.H.ptrR p j).1 ∧ SameAt S.H (S.H.ptrR p j).1 p ∧
    (S.H.sr p ∉ L.l → ((S.H.ptrR p j).2.2 : Int) = (A.heap.ptr (S.H.sr p) j).2 ∧ ((S.H.ptrR p j).2.2 = 0 → (S.H.ptrR p j).1.C (S.H.ptrR p j).2.1 ∧ (S.H.ptrR p j).1.sr (S.H.ptrR p j).2.1 = (A.heap.ptr (S.H.sr p) j).1)) ∧
    (S.H.sr p ∈ L.l → j = 0 → (S.H.ptrR p j).2.2 = 0 ∧ (S.H.ptrR p j).2.1 = 0) ∧ (∀ b, lk S.H.cur p = some b → (S.H.ptrR p j).2.2 = 0 → j < b.shp.p) := by
  obtain ⟨b, a, g1, g2, g3, g4⟩ := h.obj hp h0
  rw [g2] at g3
  obtain ⟨h1, h2, h3, h4, h5⟩ := h.gc.ptr g1 g3 g4 j
  refine ⟨h.evo (Stt.ok_ptr h.ok p j) h1 h2 h3 (ptrR_size _ _ _), h2, ?_, fun hn => ?_, fun hm hj => ?_, fun b' hb' he => ?_⟩
  · intro b' hb'
    rw [g1] at hb'; injection hb' with hb'; subst hb'
    unfold Hp.ptrR; rw [g1]; dsimp only
    split
    · exact ⟨b, g1, rfl⟩
    · split
      · rename_i x _ _
        refine ⟨b.setPtr j (S.H.moved x).2, ?_, rfl⟩
        show lk (up _ _ _) _ = _
        rw [lk_up, if_pos rfl, lk_moved g1]; rfl
      · exact ⟨b, g1, rfl⟩
  · have hlp := g4.ptrs
    rw [if_neg (by rw [← g2]; exact hn)] at hlp
    unfold Ag.ptr
    rw [g2, g3]
    dsimp only
    rw [← hlp, List.getElem?_map, h4]
    cases hj : b.ptrs[j]? with
    | none => exact ⟨rfl, fun e => by cases e⟩
    | some x => exact ⟨rfl, fun _ => h5 x hj⟩
  · have hlp := g4.ptrs
    rw [if_pos (by rw [← g2]; exact hm)] at hlp
    obtain ⟨x, hb⟩ : ∃ x, b.ptrs = [x] := by
      match hb : b.ptrs with
      | [] => rw [hb] at hlp; simp at hlp
      | [x] => exact ⟨x, rfl⟩
      | x :: y :: l => rw [hb] at hlp; simp at hlp
    rw [hb] at hlp
    have hx : b.ptrs[j]? = some x := by rw [hb, hj]; rfl
    have h6 := h5 x hx
    rw [hx] at h4
    refine ⟨h4, ?_⟩
    have : S.H.sr x = 0 := by have : srF (lk S.H.cur) (lko S.H.old) x = 0 := by simpa using hlp
                              exact this
    rw [this] at h6
    exact (h1.srz h6.1).1 h6.2
  · rw [g1] at hb'; injection hb' with hb'; subst hb'
    rw [h4] at he
    rw [← (h.ok.H.obk g1).lp]
    cases hj : b.ptrs[j]? with
    | none => rw [hj] at he; cases he
    | some x => exact (List.getElem?_eq_some_iff.1 hj).1
theorem notL (h:Sim S L A){s:Nat}(hw:A.heap.wk s=false)(hs:∃ a,A.heap s=some a):s ∉ L.l:=fun hm=>by
 obtain⟨a,ha⟩:=hs;have:=h.gc.cor.lw _ hm a ha;unfold Ag.wk at hw;rw[ha]at hw;simp[this]at hw
theorem Sim.get (h:Sim S L A) (hi:i<S.txs.length) (hp:S.H.C p) (j:Nat) (hf:Few (S.t i) k m) (hk:k<m):Twp (S.getR i p j) L (A.getR i (S.H.sr p) j) i S.txs.length (k+1) m:=by
 obtain⟨h1,h2⟩:=h.fields hi hp hf hk;unfold Stt.getR As.getR;rw[←h2];by_cases e:(S.fieldsR i p).2≠0
 ·rw[if_pos e,if_pos e];exact⟨h1.sim,fun e0=>absurd e0 e,rfl,h1.few,h1.len⟩
 ·rw[if_neg e,if_neg e]
  have hp0:=h.nz hi hp (fields0 e);have hw:=fieldsA_wk (A:=A) (i:=i) (s:=S.H.sr p) (by rw[←h2];exact e)
  obtain⟨b,a,g1,g2,g3,g4⟩:=h.obj hp hp0;have h0:=h1.hh;obtain⟨q1,q2,q3,q4,_⟩:=h1.sim.ptr (p:=p) (by rw[h0];exact hp) hp0 j
  have q5:=q4 (by rw[h0];exact notL h hw ⟨a,g3⟩)
  rw[fieldsA_heap,h0]at q5;rw[h0]at q1 ⊢;exact⟨q1,fun e0=>⟨_,rfl,by have:=q5.2 (by simpa using e0);exact⟨this.1,congrArg Nat.cast this.2⟩⟩,q5.1,h1.few,h1.len⟩
theorem Sim.put1 (h:Sim S L A) (hh:A.hld) (hi:i<S.txs.length) (hp:S.H.C p) (j:Nat) {q:Nat} (hq:S.H.C q) (hf:Few (S.t i) k m) (hk:k+1<m) :
  Tw2 (S.putR i p j q) L (A.putR i (S.H.sr p) j (S.H.sr q)) i S.txs.length (k+3) m:=by
 obtain⟨h1,h2⟩:=h.fields hi hp hf (by omega)
 have hq':¬(q≠0∧lk S.H.cur q=none):=fun hc=>(hq.resolve_left hc.1) hc.2
 unfold Stt.putR As.putR;rw[if_neg hq'];unfold Stt.put1R;rw[←h2];by_cases e:(S.fieldsR i p).2≠0
 ·rw[if_pos e,if_pos e];exact⟨h1.sim,rfl,rfl,h1.few.mono (by omega),h1.len⟩
 ·rw[if_neg e,if_neg e]
  have hp0:=h.nz hi hp (fields0 e);have hw:=fieldsA_wk (A:=A) (i:=i) (s:=S.H.sr p) (by rw[←h2];exact e)
  obtain⟨b,a,g1,g2,g3,g4⟩:=h.obj hp hp0;have h0:=h1.hh;obtain⟨q1,q2,q3,q4,_,q6⟩:=h1.sim.ptr (p:=p) (by rw[h0];exact hp) hp0 j
  have q5:=q4 (by rw[h0];exact notL h hw ⟨a,g3⟩)
  rw[fieldsA_heap,h0]at q5;rw[h0]at q1 q2 q3 q6 ⊢;rw[←q5.1];by_cases e2:(S.H.ptrR p j).2.2≠0
  ·rw[if_pos e2,if_pos (by simpa using e2)];exact⟨q1,rfl,rfl,h1.few.mono (by omega),h1.len⟩
  ·rw[if_neg e2,if_neg (by simpa using e2)]
   obtain⟨q7,q8⟩:=q5.2 (by simpa using e2)
   have hsr:∀ x,S.H.C x→(S.H.ptrR p j).1.sr x=S.H.sr x:=fun x hx=>q2.s x (CF.V hx)
   have hbd:(S.H.ptrR p j).2.1≤131072:=by
    rcases q7 with h5|h5
    ·omega
    ·obtain⟨d,hd⟩:=Option.ne_none_iff_exists'.1 h5
     have:=laid_mem _ _ _ q1.gc.wf.ok.cl _ (lk_mem hd);have:=top_bd q1.gc.wf.ok;dsimp only at *;omega
   have:=q1.chg (i:=i) (p:=p) (by exact lookA_hld hh i _) (by show i<(S.fieldsR i p).1.txs.length;rw[h1.len];exact hi) (q2.c p hp) h1.few hk (u:=⟨1,p,j,(S.H.ptrR p j).2.1⟩) (set:=fun H=>H.setPtrR p j q) (f:=fun a=>a.ptr j (S.H.sr q)) (by dsimp only;omega) (fun _=>by dsimp only;omega)
    (fun x hx=>by
     have:x=p∨x=(S.H.ptrR p j).2.1:=by simpa [Un.places] using hx
     rcases this with rfl|rfl
     ·exact q2.c _ hp
     ·exact q7)
    (fun {S' A'} hs hs1 hC' hwk=>by
     have hp':=(hC' p).2 (q2.c p hp);have hq2:=(hC' q).2 (q2.c q hq);have e6:S'.H.sr p=S.H.sr p:=(hs1 p).trans (hsr p hp);have:=hs.setptr (p:=p) hp' j hq2 (by rw[e6];exact notL h hw ⟨a,g3⟩)
     rw[e6,(hs1 q).trans (hsr q hq)]at this;refine⟨by rw[show ((S.fieldsR i p).1.h (S.H.ptrR p j).1).H.sr p=S.H.sr p from hsr p hp];exact this,fun hsm=>?_⟩
     obtain⟨b1,e7,e8⟩:=q3 b g1;obtain⟨b',e3,e4⟩:=hsm b1 e7;show (S'.H.setPtrR p j q).2=0;unfold Hp.setPtrR;rw[e3];dsimp only;rw[if_neg (fun hc=>(hq2.resolve_left hc.1) hc.2),if_neg (by rw[e4,e8];have:=q6 b g1 (by simpa using e2);omega)])
   have e5:(⟨1,p,j,((S.H.ptrR p j).2.1:Nat)⟩:Un).at' ((S.fieldsR i p).1.h (S.H.ptrR p j).1).H.sr=⟨1,S.H.sr p,j,((A.heap.ptr (S.H.sr p) j).1:Nat)⟩:=by
    unfold Un.at';rw[if_pos rfl];show Un.mk 1 ((S.H.ptrR p j).1.sr p) j (((S.H.ptrR p j).1.sr (S.H.ptrR p j).2.1:Nat):Int)=_;rw[hsr p hp,q8]
   rw[e5,show ((S.fieldsR i p).1.h (S.H.ptrR p j).1).H.sr p=S.H.sr p from hsr p hp]at this;exact⟨this.sim,this.v,this.e,this.few.mono (by omega),this.len.trans h1.len⟩
end
section
variable {A : As} {i j s : Nat}
theorem As.tx_get (A:As)(i:Nat)(x:ATx)(j:Nat){y:ATx}(h:(A.tx i x).txs[j]?=some y):(j=i∧y=x∧i<A.txs.length)∨(j≠i∧A.txs[j]?=some y):=by
 change (A.txs.set i x)[j]?=some y at h;grind
theorem As.t_get (A:As){i:Nat}(h:i<A.txs.length):A.txs[i]?=some (A.t i):=by
 unfold As.t;rw[List.getD_eq_getElem?_getD,List.getElem?_eq_getElem h];rfl
theorem As.t_of {A:As}{i:Nat}{x:ATx}(h:A.txs[i]?=some x):A.t i=x:=by unfold As.t;rw[List.getD_eq_getElem?_getD,h];rfl
theorem As.tx_t (A:As){i:Nat}(h:i<A.txs.length)(x:ATx):(A.tx i x).t i=x:=As.t_of (by show (A.txs.set i x)[i]?=_;rw[List.getElem?_set];simp[h])
theorem As.tx_ne (A:As){i j:Nat}(h:j≠i)(x:ATx):(A.tx i x).t j=A.t j:=by
 unfold As.t As.tx;rw[List.getD_eq_getElem?_getD,List.getElem?_set,if_neg (Ne.symm h),←List.getD_eq_getElem?_getD]
theorem As.tx_len (A:As)(i:Nat)(x:ATx):(A.tx i x).txs.length=A.txs.length:=by simp[As.tx]
theorem As.hld.keep {A A':As}(h:A.hld)(h1:∀ z,A.heap.sec z%2=1→A'.heap.sec z=A.heap.sec z)(h2:∀ z a,A.heap z=some a→∃ a',A'.heap z=some a'∧a'.shp=a.shp)(h3:A'.txs=A.txs):A'.hld:=by
 refine⟨fun i x hx z hz=>?_,fun i x hx u hu hk=>?_⟩
 ·rw[h3]at hx;have:=h.h i x hx z hz;rw[h1 _ (by omega)];exact this
 ·rw[h3]at hx;obtain⟨a,h4,h5⟩:=h.u i x hx u hu hk
  grind
theorem As.hld.tx (h:A.hld){x:ATx}(h1:∀ z ∈ x.holds,A.heap.sec z.1=2*i+1)(h2:∀ u ∈ x.undos,u.kind=1→∃ a,A.heap u.pos=some a∧a.shp.weak=false):(A.tx i x).hld:=by
 refine⟨fun j y hy z hz=>?_,fun j y hy u hu hk=>?_⟩
 ·rcases A.tx_get i x j hy with⟨rfl,rfl,_⟩|⟨_,hy⟩
  ·exact h1 z hz
  ·exact h.h j y hy z hz
 ·rcases A.tx_get i x j hy with⟨rfl,rfl,_⟩|⟨_,hy⟩
  ·exact h2 u hu hk
  ·exact h.u j y hy u hu hk
theorem upd_sec {A:Ag}{s:Nat}{f:AO→AO}(x:Nat)(hx:x≠s∨∀ a,(f a).sec=a.sec):(A.upd s f).sec x=A.sec x:=by
 unfold Ag.sec Ag.upd;grind
theorem upd_shp {A:Ag}{s:Nat}{f:AO→AO}(hf:∀ a,(f a).shp=a.shp)(z:Nat)(a:AO)(h:A z=some a):∃ a',A.upd s f z=some a'∧a'.shp=a.shp:=by
 unfold Ag.upd;grind
theorem As.hld.upd (h:A.hld){s:Nat}{f:AO→AO}(h1:∀ a,(f a).sec=a.sec)(h2:∀ a,(f a).shp=a.shp):(A.h (A.heap.upd s f)).hld:=
 h.keep (fun z _=>upd_sec z (.inr h1)) (fun z a ha=>upd_shp h2 z a ha) rfl
theorem As.hld.hold (h:A.hld) (hi:i<A.txs.length) {s:Nat} {a:AO} (ha:A.heap s=some a):(A.hold i s).hld∧(A.hold i s).txs.length=A.txs.length∧(∀ z a,A.heap z=some a→∃ a',(A.hold i s).heap z=some a'∧a'.shp=a.shp):=by
 unfold As.hold;split
 ·grind
 ·rename_i he
  have hshp:∀ z a,A.heap z=some a→∃ a',(A.heap.upd s fun a=>a.second (2*i+1)) z=some a'∧a'.shp=a.shp:=upd_shp (f:=fun a=>a.second (2*i+1)) fun _=>rfl
  refine⟨?_,A.tx_len i _,hshp⟩;have hsec:(A.heap.upd s fun a=>a.second (2*i+1)).sec s=2*i+1:=by unfold Ag.sec Ag.upd;rw[if_pos rfl,ha];rfl
  have h0:As.hld (A.h (A.heap.upd s fun a=>a.second (2*i+1))):=h.keep (fun x hx=>upd_sec x (.inl (by rintro rfl;exact he hx))) hshp rfl
  exact h0.tx (i:=i) (x:=(A.t i).holding s (A.heap.sec s/2)) (fun z hz=>by
   rcases List.mem_append.1 (show z ∈ (A.t i).holds++[_] from hz) with hz|hz
   ·exact h0.h i _ (A.t_get hi) z hz
   ·rw[List.mem_singleton.1 hz];exact hsec) fun u hu=>h0.u i _ (A.t_get hi) u hu
theorem As.hld.chg (h:A.hld)(hi:i<A.txs.length){s:Nat}{a:AO}(ha:A.heap s=some a){u:Un}{f:AO→AO}(hu:u.pos=s)(hk:u.kind=1→a.shp.weak=false)(h1:∀ a,(f a).sec=a.sec)(h2:∀ a,(f a).shp=a.shp):(A.chg i s u f).A.hld∧(A.chg i s u f).A.txs.length=A.txs.length:=by
 obtain⟨g1,g2,g3⟩:=h.hold hi ha;refine⟨As.hld.upd (A:=(A.hold i s).tx i (((A.hold i s).t i).undo u)) ?_ h1 h2,(As.tx_len _ i _).trans g2⟩;have hi':i<(A.hold i s).txs.length:=by rw[g2];exact hi
 refine g1.tx (fun z hz=>g1.h i _ (As.t_get _ hi') z hz) fun v hv hk'=>?_
 rcases List.mem_append.1 (show v ∈ ((A.hold i s).t i).undos++[u] from hv) with hv|hv
 ·exact g1.u i _ (As.t_get _ hi') v hv hk'
 ·grind
theorem lookA_len (A:As)(i s:Nat):(A.lookR i s).1.txs.length=A.txs.length:=by
 unfold As.lookR;split;rfl;split;rfl;split;rfl;exact A.tx_len i _
theorem lookA_some {A:As}{i s:Nat}(he:¬(A.lookR i s).2≠0):∃ a,A.heap s=some a:=by
 unfold As.lookR at he;grind
theorem fieldsA0 {A:As}{i s:Nat}(he:¬(A.fieldsR i s).2≠0):¬(A.lookR i s).2≠0:=by
 unfold As.fieldsR at he;dsimp only at he;grind
structure HL (n:Nat)(A:As):Prop where
 hld:A.hld
 len:A.txs.length=n
theorem As.hld.read (h:A.hld)(s j:Nat):HL A.txs.length (A.readR i s j).A:=by
 unfold As.readR;split<;>exact⟨lookA_hld h i s,lookA_len A i s⟩
theorem As.hld.get (h:A.hld)(s j:Nat):HL A.txs.length (A.getR i s j).A:=by
 unfold As.getR;split<;>exact⟨lookA_hld h i s,lookA_len A i s⟩
theorem As.hld.write (h:A.hld) (hi:i<A.txs.length) (s j:Nat) (v:Int):HL A.txs.length (A.writeR i s j v).A:=by
 unfold As.writeR;have h1:HL A.txs.length (A.fieldsR i s).1:=⟨lookA_hld h i s,lookA_len A i s⟩;split
 ·exact h1
 ·rename_i e
  split
  ·exact h1
  ·obtain⟨a,ha⟩:=lookA_some (fieldsA0 e)
   obtain⟨g1,g2⟩:=h1.hld.chg (by rw[h1.len];exact hi) (a:=a) (by rw[fieldsA_heap];exact ha) (u:=⟨2,s,j,(A.heap.num s j).1⟩) (f:=fun a=>a.num j v) rfl (fun e=>by cases e) (fun _=>rfl) fun _=>rfl
   exact⟨g1,g2.trans h1.len⟩
theorem As.hld.put (h:A.hld) (hi:i<A.txs.length) (s j q:Nat):HL A.txs.length (A.putR i s j q).A:=by
 unfold As.putR;have h1:HL A.txs.length (A.fieldsR i s).1:=⟨lookA_hld h i s,lookA_len A i s⟩;split
 ·exact h1
 ·rename_i e
  split
  ·exact h1
  ·obtain⟨a,ha⟩:=lookA_some (fieldsA0 e)
   have hw:=fieldsA_wk e;unfold Ag.wk at hw;rw[ha]at hw;obtain⟨g1,g2⟩:=h1.hld.chg (by rw[h1.len];exact hi) (a:=a) (by rw[fieldsA_heap];exact ha) (u:=⟨1,s,j,(A.heap.ptr s j).1⟩) (f:=fun a=>a.ptr j q) rfl (fun _=>hw) (fun _=>rfl) fun _=>rfl
   exact⟨g1,g2.trans h1.len⟩
theorem As.hld.free (h:A.hld) (hi:i<A.txs.length) (s:Nat):HL A.txs.length (A.freeR i s).A:=by
 unfold As.freeR;have h1:HL A.txs.length (A.lookR i s).1:=⟨lookA_hld h i s,lookA_len A i s⟩;split
 ·exact h1
 ·rename_i e
  obtain⟨a,ha⟩:=lookA_some e;obtain⟨g1,g2⟩:=h1.hld.chg (by rw[h1.len];exact hi) (a:=a) (by rw[lookA_heap];exact ha) (u:=⟨3,s,0,0⟩) (f:=fun a=>a.free true) rfl (fun e=>by cases e) (fun _=>rfl) fun _=>rfl
  exact⟨g1,g2.trans h1.len⟩
theorem As.hld.lay (h:A.hld) (hi:i<A.txs.length) (hn:A.heap (A.ser+1)=none) (s:Shp) (ps:List Nat):HL A.txs.length (A.lay i s ps):=by
 refine⟨?_,A.tx_len i _⟩;have h0:As.hld (A.h fun x=>if x=A.ser+1 then some ⟨s,false,2*i+1,ps,List.replicate s.d 0⟩ else A.heap x):=by
  refine h.keep (fun z hz=>?_) (fun z a ha=>?_) rfl
  ·have:z≠A.ser+1:=by rintro rfl;unfold Ag.sec at hz;rw[hn]at hz;cases hz
   unfold Ag.sec As.h;dsimp only;rw[if_neg this]
  ·have:z≠A.ser+1:=by rintro rfl;rw[hn]at ha;cases ha
   exact⟨a,by show (if _ then _ else _)=_;rw[if_neg this];exact ha,rfl⟩
 have h1:=h0.tx (i:=i) (x:=(A.t i).holding (A.ser+1) 0) (fun z hz=>by
  rcases List.mem_append.1 (show z ∈ (A.t i).holds++[_] from hz) with hz|hz
  ·exact h0.h i _ (A.t_get hi) z hz
  ·rw[List.mem_singleton.1 hz];show Ag.sec (fun x=>if x=A.ser+1 then _ else _) (A.ser+1)=_;unfold Ag.sec;simp) fun u hu=>h0.u i _ (A.t_get hi) u hu
 exact⟨h1.h,h1.u⟩
theorem As.hld.alloc (h:A.hld)(hi:i<A.txs.length)(hn:A.heap (A.ser+1)=none)(s:Shp)(m:Bool):HL A.txs.length (A.allocR i s m).A:=by
 unfold As.allocR;split
 ·exact⟨h,rfl⟩
 ·exact h.lay hi hn _ _
theorem As.hld.weak (h:A.hld)(hi:i<A.txs.length)(hn:A.heap (A.ser+1)=none)(q:Nat)(m:Bool):HL A.txs.length (A.weakR i q m).A:=by
 unfold As.weakR;split
 ·exact⟨h,rfl⟩
 ·split
  ·exact⟨h,rfl⟩
  ·exact h.lay hi hn _ _
theorem As.hld.meta (h:A.hld){A':As}(h1:A'.heap=A.heap)(h2:A'.txs=A.txs):A'.hld:=⟨by rw[h1,h2];exact h.h,by rw[h1,h2];exact h.u⟩
theorem As.hld.setx (h:A.hld)(hi:i<A.txs.length){x:ATx}(h1:x.holds=(A.t i).holds)(h2:x.undos=(A.t i).undos):HL A.txs.length (A.tx i x):=
 ⟨h.tx (fun z hz=>h.h i _ (A.t_get hi) z (by rw[←h1];exact hz)) fun u hu=>h.u i _ (A.t_get hi) u (by rw[←h2];exact hu),A.tx_len i x⟩
theorem As.hld.take (h:A.hld)(hi:i<A.txs.length):HL A.txs.length (A.takeR i).A:=by
 unfold As.takeR;split
 ·exact⟨h,rfl⟩
 ·split
  ·exact⟨h.meta rfl rfl,rfl⟩
  ·split
   ·exact⟨h.meta rfl rfl,rfl⟩
   ·rename_i z l _ _
    exact As.hld.setx (A:={ A with holder:=i,queue:=l }) (h.meta rfl rfl) hi rfl rfl
theorem As.hld.off (h:A.hld){H:Ag}(h1:∀ z,A.heap.sec z%2=1→A.heap.sec z≠2*i+1→H.sec z=A.heap.sec z)(h2:∀ z a,A.heap z=some a→∃ a',H z=some a'∧a'.shp=a.shp){A':As}(ha:A'.heap=H)(ht:A'.txs=A.txs):HL A.txs.length (A'.tx i (A.t i).ended):=by
 refine⟨⟨fun j y hy z hz=>?_,fun j y hy u hu hk=>?_⟩,by rw[As.tx_len,ht]⟩
 ·rcases As.tx_get A' i _ j hy with⟨rfl,rfl,_⟩|⟨hj,hy⟩
  ·cases hz
  ·rw[ht]at hy
   have:=h.h j y hy z hz;show A'.heap.sec z.1=_;rw[ha,h1 _ (by omega) (by omega)];exact this
 ·rcases As.tx_get A' i _ j hy with⟨rfl,rfl,_⟩|⟨hj,hy⟩
  ·cases hu
  ·rw[ht]at hy
   obtain⟨a,h3,h4⟩:=h.u j y hy u hu hk;obtain⟨a',h5,h6⟩:=h2 _ _ h3;exact⟨a',by show A'.heap _=_;rw[ha];exact h5,by rw[h6];exact h4⟩
theorem comL_sec:∀ (zs:List (Nat×Nat))(A:Ag)(v s:Nat),(∀ z ∈ zs,z.1≠s)→(A.comL zs v).sec s=A.sec s
 | [],_,_,_,_=>rfl
 | z::zs,A,v,s,h=>(comL_sec zs _ v s fun y hy=>h y (.tail _ hy)).trans (upd_sec s (.inl (Ne.symm (h z (.head _)))))
theorem comL_shp:∀ (zs:List (Nat×Nat)) (A:Ag) (v:Nat) (s:Nat) (a:AO),A s=some a→∃ a',(A.comL zs v) s=some a'∧a'.shp=a.shp
 | [],_,_,_,a,h=>⟨a,h,rfl⟩
 | z::zs,A,v,s,a,h=>by
  obtain⟨a',h1,h2⟩:=upd_shp (A:=A) (s:=z.1) (f:=fun a=>a.second (2*v)) (fun _=>rfl) s a h
  obtain⟨a2,h3,h4⟩:=comL_shp zs _ v s a' h1;exact⟨a2,h3,h4.trans h2⟩
theorem relL_sec:∀ (zs:List (Nat×Nat))(A:Ag)(s:Nat),(∀ z ∈ zs,z.1≠s)→(A.relL zs).sec s=A.sec s
 | [],_,_,_=>rfl
 | z::zs,A,s,h=>(relL_sec zs _ s fun y hy=>h y (.tail _ hy)).trans (upd_sec s (.inl (Ne.symm (h z (.head _)))))
theorem relL_shp:∀ (zs:List (Nat×Nat)) (A:Ag) (s:Nat) (a:AO),A s=some a→∃ a',(A.relL zs) s=some a'∧a'.shp=a.shp
 | [],_,_,a,h=>⟨a,h,rfl⟩
 | z::zs,A,s,a,h=>by
  obtain⟨a',h1,h2⟩:=upd_shp (A:=A) (s:=z.1) (f:=fun a=>if z.2=0 then (a.second 0).free true else a.second (2*z.2)) (fun _=>by split<;>rfl) s a h
  obtain⟨a2,h3,h4⟩:=relL_shp zs _ s a' h1;exact⟨a2,h3,h4.trans h2⟩
theorem undo1_sec (A:Ag)(u:Un)(s:Nat):(A.undo1 u).sec s=A.sec s:=by
 unfold Ag.undo1;split
 ·exact upd_sec s (.inr fun _=>rfl)
 ·split
  ·exact upd_sec s (.inr fun _=>rfl)
  ·split
   ·exact upd_sec s (.inr fun _=>rfl)
   ·rfl
theorem undo1_shp (A:Ag)(u:Un)(s:Nat)(a:AO)(h:A s=some a):∃ a',(A.undo1 u) s=some a'∧a'.shp=a.shp:=by
 unfold Ag.undo1;split
 ·exact upd_shp (f:=fun a=>a.ptr u.i u.old.toNat) (fun _=>rfl) s a h
 ·split
  ·exact upd_shp (f:=fun a=>a.num u.i u.old) (fun _=>rfl) s a h
  ·split
   ·exact upd_shp (f:=fun a=>a.free (decide (u.old≠0))) (fun _=>rfl) s a h
   ·grind
theorem undoL_sec (A:Ag)(s:Nat):∀ us:List Un,(A.undoL us).sec s=A.sec s
 | []=>rfl
 | u::us=>(undo1_sec _ u s).trans (undoL_sec A s us)
theorem undoL_shp (A:Ag)(s:Nat)(a:AO)(h:A s=some a):∀ us:List Un,∃ a',(A.undoL us) s=some a'∧a'.shp=a.shp
 | []=>⟨a,h,rfl⟩
 | u::us=>by
  obtain⟨a',h1,h2⟩:=undoL_shp A s a h us;obtain⟨a2,h3,h4⟩:=undo1_shp _ u s a' h1;exact⟨a2,h3,h4.trans h2⟩
theorem As.hld.nheld (h:A.hld)(hi:i<A.txs.length){s:Nat}(h2:A.heap.sec s≠2*i+1):∀ z ∈ (A.t i).holds,z.1≠s:=by
 rintro z hz rfl;exact h2 (h.h i _ (A.t_get hi) z hz)
theorem As.hld.abort (h:A.hld)(hi:i<A.txs.length):HL A.txs.length (A.abort i):=by
 refine h.off (H:=(A.heap.undoL (A.t i).undos).relL (A.t i).holds) (fun z h1 h2=>?_) (fun z a ha=>?_) ?_ ?_
 ·rw[relL_sec _ _ _ (h.nheld hi h2),undoL_sec]
 ·obtain⟨a',h1,h2⟩:=undoL_shp A.heap z a ha (A.t i).undos
  obtain⟨a2,h3,h4⟩:=relL_shp (A.t i).holds _ z a' h1;grind
 ·unfold As.untake;split<;>rfl
 ·unfold As.untake;split<;>rfl
theorem As.hld.commit (h:A.hld)(hi:i<A.txs.length):HL A.txs.length (A.commitR i).A:=by
 unfold As.commitR;split
 ·exact h.off (H:=A.heap) (fun _ _ _=>rfl) (fun z a ha=>⟨a,ha,rfl⟩) rfl rfl
 ·split
  ·exact⟨h,rfl⟩
  ·refine h.off (H:=A.heap.comL (A.t i).holds (A.now+1)) (fun z h1 h2=>comL_sec _ _ _ _ (h.nheld hi h2)) (fun z a ha=>comL_shp _ _ _ z a ha) ?_ ?_
   ·unfold As.tick;split<;>rfl
   ·unfold As.tick;split<;>rfl
theorem As.hld.begin (h:A.hld)(hi:i<A.txs.length):HL A.txs.length (A.beginR i).1:=by
 unfold As.beginR;split
 ·exact⟨h,rfl⟩
 ·split
  ·exact h.setx hi rfl rfl
  ·exact⟨h,rfl⟩
theorem HL.fin {n:Nat}{r:ARes}(h:HL n r.A)(hi:i<n):HL n (r.fin i).A:=by
 unfold ARes.fin;split
 ·have:=h.hld.abort (i:=i) (by rw[h.len];exact hi);rw[h.len]at this;exact this
 ·grind
theorem HL.deed {r:ARes}(h0:A.hld)(h:HL A.txs.length r.A)(hi:i<A.txs.length):HL A.txs.length (A.deedR i r).A:=by
 unfold As.deedR;split
 ·exact h.fin hi
 ·exact⟨h0,rfl⟩
end
section
variable {S : Stt} {L : Cx} {A : As} {i p k m : Nat}
theorem Sim.lay (h:Sim S L A) (hi:i<S.txs.length) {s:Shp} (hs:s.ok) (hr:S.H.roomy s=true) (hf:Few (S.t i) k m) (hk:k<m) :
  (S.layR i s).2.2=0∧Sim (S.layR i s).1 L (A.lay i s (List.replicate s.p 0))∧Few ((S.layR i s).1.t i) (k+1) m∧(S.layR i s).1.H.C (S.layR i s).2.1∧(S.layR i s).2.1≠0∧(S.layR i s).1.H.sr (S.layR i s).2.1=A.ser+1∧A.ser+1 ∉ L.l ∧
  (∀ x,S.H.C x→(S.layR i s).1.H.C x∧(S.layR i s).1.H.sr x=S.H.sr x):=by
 obtain⟨g1,g2,g3,g4,g5⟩:=h.gc.lay hs hr;have ha:S.H.allocR s=(S.H.lay s,S.H.top,0):=by unfold Hp.allocR;rw[if_pos hr]
 have hmu:=hf.mu;have hh:=hf.h;have ht:=top_free h.ok.H.ok;have h1:Sim (S.h (S.H.lay s)) L { A with heap:=updA A.heap (S.H.serial+1) ⟨s,false,0,List.replicate s.p 0,List.replicate s.d 0⟩,ser:=S.H.serial+1 }:=
  h.heap (Stt.ok_lay h.ok hs hr) g1 (fun x hx=>⟨g2.c x hx,g2.s x (CF.V hx)⟩) rfl rfl
 have hl:(S.h (S.H.lay s)).holdLR i S.H.top 0=((S.h (S.H.lay s)).tx i (((S.h (S.H.lay s)).t i).holding S.H.top 0),true):=by
  unfold Stt.holdLR;rw[if_pos];unfold mayHold;simp only[Bool.and_eq_true,decide_eq_true_eq];refine⟨fun z hz e=>?_,by show (S.t i).log.holds.length<(S.t i).log.mu;omega⟩
  have:=h.tpl hi z.1 (by unfold Tx.places Lg.roots;simp only[List.mem_append,List.mem_map];exact .inl (.inl (.inr ⟨z,hz,rfl⟩)))
  rw[e]at this;rcases this with h0|h0
  ·exact g4 h0
  ·exact h0 ht
 have e:S.layR i s=(((S.h (S.H.lay s)).tx i (((S.h (S.H.lay s)).t i).holding S.H.top 0)).ownR i S.H.top,S.H.top,0):=by
  unfold Stt.layR;rw[ha,if_neg (by simp)]
  show (if (Stt.holdLR (S.h (S.H.lay s)) i S.H.top 0).2=true then ((Stt.holdLR (S.h (S.H.lay s)) i S.H.top 0).1.ownR i S.H.top,S.H.top,(0:Int)) else _)=_
  rw[hl,if_pos rfl]
 rw[e];have h2:=h1.mark (i:=i) (p:=S.H.top) hi g3 (v:=0) (by omega) (by show (S.t i).log.holds.length<(S.t i).log.mu;omega)
 rw[show (S.h (S.H.lay s)).H.sr S.H.top=S.H.serial+1 from g5]at h2;have hsm:=second_same (S.H.lay s) S.H.top (2*i+1);refine⟨rfl,?_,?_,(hsm.2 _).2 g3,g4,(hsm.1 _).trans (g5.trans (by rw[h.ser])),fun hm=>by have:=h.gc.cor.ln _ hm;have:=h.ser;omega,fun x hx=>⟨(hsm.2 x).2 (g2.c x hx),(hsm.1 x).trans (g2.s x (CF.V hx))⟩⟩
 ·have e2:A.lay i s (List.replicate s.p 0)=(({ A with heap:=updA A.heap (S.H.serial+1) ⟨s,false,0,List.replicate s.p 0,List.replicate s.d 0⟩,ser:=S.H.serial+1 }:As).tx i ((A.t i).holding (S.H.serial+1) 0)).h ((updA A.heap (S.H.serial+1) ⟨s,false,0,List.replicate s.p 0,List.replicate s.d 0⟩).upd (S.H.serial+1) fun a=>a.second (2*i+1)):=by
   unfold As.lay As.h As.tx;rw[h.ser];dsimp only;congr 1;funext x;unfold Ag.upd updA;by_cases e:x=S.H.serial+1
   ·subst e;simp[AO.second]
   ·simp[e]
  rw[e2];exact h2
 ·show Few ((Stt.tx _ _ _).t i) _ _
  rw[Stt.tx_t (by exact hi)];exact Few.holding hf _ _
theorem Sim.alloc (h:Sim S L A)(hi:i<S.txs.length){s:Shp}(hs:s.ok)(hf:Few (S.t i) k m)(hk:k<m):Twp (S.allocR i s) L (A.allocR i s (!S.H.roomy s)) i S.txs.length (k+1) m:=by
 unfold Stt.allocR As.allocR;by_cases hr:S.H.roomy s=true
 ·obtain⟨g1,g2,g3,g4,g5,g6,g7,g8⟩:=h.lay hi hs hr hf hk
  rw[hr];exact⟨g2,fun _=>⟨_,rfl,g4,by show ((S.layR i s).1.H.sr (S.layR i s).2.1:Int)=_;rw[g6];rfl⟩,g1,g3,lay_len S i s⟩
 ·have e:S.layR i s=(S,0,100):=by unfold Stt.layR Hp.allocR;rw[if_neg hr];rfl
  rw[e,show (!S.H.roomy s)=true from by simp[hr]]
  exact⟨h,fun e=>(by cases e),rfl,hf.mono (by omega),rfl⟩
theorem Sim.weak (h:Sim S L A)(hi:i<S.txs.length){q:Nat}(hq:S.H.C q)(hf:Few (S.t i) k m)(hk:k<m):Twp (S.weakR i q) L (A.weakR i (S.H.sr q) (!S.H.roomy wkS)) i S.txs.length (k+1) m:=by
 unfold Stt.weakR As.weakR;by_cases e:q=0
 ·subst e;rw[h.gc.sr0,if_pos rfl,if_pos rfl];exact⟨h,fun e=>(by cases e),rfl,hf.mono (by omega),rfl⟩
 ·rw[if_neg e,if_neg (fun e'=>e ((h.gc.srz hq).1 e')),if_neg (hq.resolve_left e)]
  by_cases hr:S.H.roomy wkS=true
  ·obtain⟨g1,g2,g3,g4,g5,g6,g7,g8⟩:=h.lay hi wkS_ok hr hf hk
   rw[if_neg (by rw[g1];simp),hr]
   have h3:=g2.setptr (p:=(S.layR i wkS).2.1) g4 0 (q:=q) (g8 q hq).1 (by rw[g6];exact g7)
   have hsm:=ptr_same (S.layR i wkS).1.H (S.layR i wkS).2.1 0 q;refine⟨?_,fun _=>⟨_,rfl,(hsm.2 _).2 g4,?_⟩,rfl,g3,lay_len S i wkS⟩
   ·rw[g6,(g8 q hq).2]at h3
    have e2:(A.lay i wkS (List.replicate wkS.p 0)).h ((A.lay i wkS (List.replicate wkS.p 0)).heap.upd (A.ser+1) fun a=>a.ptr 0 (S.H.sr q))=A.lay i wkS [S.H.sr q]:=by
     unfold As.lay As.h As.tx;dsimp only;congr 1;funext x;unfold Ag.upd;by_cases e:x=A.ser+1
     ·subst e;simp[AO.ptr,wkS]
     ·simp[e]
    grind
   ·show (((S.layR i wkS).1.H.setPtrR (S.layR i wkS).2.1 0 q).1.sr (S.layR i wkS).2.1:Int)=_
    rw[hsm.1,g6];rfl
  ·have e:S.layR i wkS=(S,0,100):=by unfold Stt.layR Hp.allocR;rw[if_neg hr];rfl
   rw[e,show (!S.H.roomy wkS)=true from by simp[hr]]
   exact⟨h,fun e=>(by cases e),rfl,hf.mono (by omega),rfl⟩
theorem Few.keep {x:Tx}(h:Few x k m)(p:Nat):Few (x.keep p) (k+1) m:=
 ⟨Nat.le_succ_of_le h.r,by have:=noteL_len' x.log.keeps p x.log.mr;have:=h.kp;show (noteL x.log.keeps p x.log.mr).length≤_;omega,Nat.le_succ_of_le h.h,Nat.le_succ_of_le h.u,h.mr,h.mu⟩
end
section
variable {S : Stt} {L : Cx} {A : As} {i p k m : Nat}
theorem Sim.meta (h:Sim S L A){S':Stt}{A':As}(hok:S'.ok)(hH:S'.H=S.H)(h1:A'.heap=A.heap)(h2:A'.ser=A.ser)(hz:A'.sz=A.sz)(hn:A'.now=S'.now)(hm:A'.most=S'.most)(hx:A'.next=S'.next)(ho:A'.holder=S'.holder)(hv:A'.version=S'.version)
  (ht:A'.txs=S'.txs.map (Tx.ab S.H.sr))(hq:A'.queue=at1 S.H.sr S'.queue)(hp:∀ p ∈ S'.places [],S.H.C p):Sim S' L A':=
 ⟨hok,by rw[hH,h1];exact h.gc,by rw[hH,h2];exact h.ser,hn,hm,hx,ho,hv,by rw[hH];exact ht,by rw[hH];exact hq,by rw[hH];exact hp,by rw[hH];exact h.ex,by rw[hH];exact h.ey,by rw[hz,hH];exact h.sz⟩
theorem places_mem {S:Stt}{p:Nat}:p ∈ S.places []↔(∃ z ∈ S.queue,z.1=p)∨∃ x ∈ S.txs,p ∈ x.places:=by
 unfold Stt.places;simp only[List.nil_append,List.mem_append,List.mem_map,List.mem_flatMap]
theorem taking_places {x:Tx}{P:Nat→Prop}{z:Nat×Nat}(hx:∀ q ∈ x.places,P q)(hp:P z.1):∀ q ∈ (x.taking z).places,P q:=by
 intro q hq;unfold Tx.places Tx.taking at hq;simp only[List.map_append,List.mem_append,List.map_cons,List.map_nil,List.mem_singleton]at hq;rcases hq with hq|hq|rfl
 ·exact hx q (List.mem_append.2 (.inl hq))
 ·exact hx q (List.mem_append.2 (.inr hq))
 ·exact hp
theorem Sim.take (h:Sim S L A)(hi:i<S.txs.length)(hf:Few (S.t i) k m):Twp (S.takeR i) L (A.takeR i) i S.txs.length (k+1) m:=by
 have hok:=(good_takeR h.ok hi).1;have e1:A.t i=(S.t i).ab S.H.sr:=h.at hi;have hc:(A.holder≠-1∧A.holder≠(i:Int)∨(A.t i).start<A.version)=(S.holder≠-1∧S.holder≠(i:Int)∨(S.t i).start<S.version):=by rw[h.ho,h.ver,e1];rfl
 by_cases e:S.holder≠-1∧S.holder≠(i:Int)∨(S.t i).start<S.version
 ·unfold Stt.takeR As.takeR
  rw[if_pos e,if_pos (by rw[hc];exact e)]
  exact⟨h,fun e=>(by cases e),rfl,hf.mono (by omega),rfl⟩
 ·have e':¬(A.holder≠-1∧A.holder≠(i:Int)∨(A.t i).start<A.version):=by rw[hc];exact e
  have hnil:∀ (hok:({ S with holder:=(i:Int) }:Stt).ok),Twp ⟨{ S with holder:=i },0,0⟩ L ⟨{ A with holder:=i },0,0⟩ i S.txs.length (k+1) m:=fun hok =>
   ⟨h.meta (S':={ S with holder:=i }) hok rfl rfl rfl rfl h.now h.most h.next rfl h.ver h.tx h.qu h.pl,fun _=>⟨0,rfl,.inl rfl,by rw[show ({ S with holder:=(i:Int) }:Stt).H.sr 0=S.H.sr 0 from rfl,h.gc.sr0];rfl⟩,rfl,hf.mono (by omega),rfl⟩
  cases hq:S.queue with
  | nil =>
   have e2:S.takeR i=⟨{ S with holder:=i },0,0⟩:=by unfold Stt.takeR;rw[if_neg e,hq]
   have e3:A.takeR i=⟨{ A with holder:=i },0,0⟩:=by unfold As.takeR;rw[if_neg e',show A.queue=[] from by rw[h.qu,hq];rfl]
   rw[e2]at hok ⊢;rw[e3];exact hnil hok
  | cons z l =>
   have hqA:A.queue=(S.H.sr z.1,z.2)::at1 S.H.sr l:=by rw[h.qu,hq];rfl
   have hse:(A.t i).seen=(S.t i).seen:=by rw[e1];rfl
   by_cases e4:(S.t i).seen≤z.2
   ·have e2:S.takeR i=⟨{ S with holder:=i },0,0⟩:=by unfold Stt.takeR;rw[if_neg e,hq];dsimp only;rw[if_pos e4]
    have e3:A.takeR i=⟨{ A with holder:=i },0,0⟩:=by unfold As.takeR;rw[if_neg e',hqA];dsimp only;rw[hse,if_pos e4]
    rw[e2]at hok ⊢;rw[e3];exact hnil hok
   ·have e2:S.takeR i=⟨({ S with holder:=i,queue:=l }:Stt).tx i ((S.t i).taking z),z.1,0⟩:=by unfold Stt.takeR;rw[if_neg e,hq];dsimp only;rw[if_neg e4]
    have e3:A.takeR i=⟨({ A with holder:=i,queue:=at1 S.H.sr l }:As).tx i ((A.t i).taking (S.H.sr z.1,z.2)),S.H.sr z.1,0⟩:=by unfold As.takeR;rw[if_neg e',hqA];dsimp only;rw[hse,if_neg e4]
    rw[e2]at hok ⊢;rw[e3];have hz:S.H.C z.1:=h.qpl (z:=z) (by rw[hq];exact .head _)
    have e5:((S.t i).taking z).ab S.H.sr=(A.t i).taking (S.H.sr z.1,z.2):=by rw[e1];unfold Tx.ab Tx.taking ATx.taking at1;simp
    refine⟨h.meta (S':=({ S with holder:=i,queue:=l }:Stt).tx i ((S.t i).taking z)) hok rfl rfl rfl rfl h.now h.most h.next rfl h.ver ?_ rfl fun q hq'=>?_,fun _=>⟨z.1,rfl,hz,rfl⟩,rfl,?_,Stt.tx_len _ _ _⟩
    ·show A.txs.set i _=(S.txs.set i _).map _
     rw[h.tx,List.map_set,e5]
    ·rcases places_mem.1 hq' with ⟨y,hy,rfl⟩|⟨x,hx,hx2⟩
     ·exact h.qpl (by rw[hq];exact .tail _ hy)
     ·rcases List.mem_or_eq_of_mem_set (show x ∈ S.txs.set i _ from hx) with h3|rfl
      ·exact h.pl q (places_mem.2 (.inr ⟨x,h3,hx2⟩))
      ·exact taking_places (h.tpl hi) hz q hx2
    ·show Few ((Stt.tx _ _ _).t i) _ _
     rw[Stt.tx_t (by exact hi)];exact⟨Nat.le_succ_of_le hf.r,Nat.le_succ_of_le hf.kp,Nat.le_succ_of_le hf.h,Nat.le_succ_of_le hf.u,hf.mr,hf.mu⟩
theorem Sim.comL:∀ (zs:List (Nat×Nat)) {S:Stt} {A:As} (_:Sim S L A) (_:∀ z ∈ zs,S.H.C z.1) {v:Nat} (_:v≤1099511627776),Sim (S.h (S.H.comL zs v)) L (A.h (A.heap.comL (at1 S.H.sr zs) v))∧(∀ x,(S.H.comL zs v).sr x=S.H.sr x)∧∀ x,(S.H.comL zs v).C x↔S.H.C x
 | [],_,_,h,_,_,_=>⟨h,fun _=>rfl,fun _=>Iff.rfl⟩
 | z::zs,S,A,h,hz,v,hv=>by
  have h1:=h.second (p:=z.1) (hz z (.head _)) (v:=2*v) (by omega) (fun h=>by omega)
  have hs:=second_same S.H z.1 (2*v);obtain⟨g1,g2,g3⟩:=Sim.comL zs h1 (fun y hy=>(hs.2 _).2 (hz y (.tail _ hy))) hv
  have e:at1 (S.h (S.H.setSecondR z.1 (2*v)).1).H.sr zs=at1 S.H.sr zs:=at1_congr fun y _=>hs.1 _
  rw[e]at g1;exact⟨g1,fun x=>(g2 x).trans (hs.1 x),fun x=>(g3 x).trans (hs.2 x)⟩
theorem Sim.relL:∀ (zs:List (Nat×Nat)){S:Stt}{A:As}(_:Sim S L A)(_:∀ z ∈ zs,S.H.C z.1∧z.2≤1099511627776),Sim (S.h (S.H.relL zs)) L (A.h (A.heap.relL (at1 S.H.sr zs)))∧(∀ x,(S.H.relL zs).sr x=S.H.sr x)∧∀ x,(S.H.relL zs).C x↔S.H.C x
 | [],_,_,h,_=>⟨h,fun _=>rfl,fun _=>Iff.rfl⟩
 | z::zs,S,A,h,hz=>by
  obtain⟨hz1,hz2⟩:=hz z (.head _);have h1:=h.second (p:=z.1) hz1 (v:=2*z.2) (by omega) (fun h=>by omega)
  have hs:=second_same S.H z.1 (2*z.2);have key:Sim (S.h (S.H.rel1 z)) L (A.h (A.heap.rel1 (S.H.sr z.1,z.2)))∧(∀ x,(S.H.rel1 z).sr x=S.H.sr x)∧∀ x,(S.H.rel1 z).C x↔S.H.C x:=by
   unfold Hp.rel1 Ag.rel1;by_cases e:z.2=0
   ·rw[if_pos e]
    have h2:=h1.freed (p:=z.1) ((hs.2 _).2 hz1) true;have hf:=freed_same (S.H.setSecondR z.1 (2*z.2)).1 z.1 true;refine⟨?_,fun x=>(hf.1 x).trans (hs.1 x),fun x=>(hf.2 x).trans (hs.2 x)⟩
    rw[show (S.h (S.H.setSecondR z.1 (2*z.2)).1).H.sr z.1=S.H.sr z.1 from hs.1 _]at h2;have e2:(A.heap.upd (S.H.sr z.1) fun a=>if z.2=0 then (a.second 0).free true else a.second (2*z.2))=((A.heap.upd (S.H.sr z.1) fun a=>a.second (2*z.2)).upd (S.H.sr z.1) fun a=>a.free true):=by
     funext x;unfold Ag.upd;by_cases e3:x=S.H.sr z.1
     ·subst e3;rw[if_pos rfl,if_pos rfl,if_pos rfl,e];cases A.heap (S.H.sr z.1)<;>rfl
     ·grind
    dsimp only;rw[e2];exact h2
   ·grind
  obtain⟨k1,k2,k3⟩:=key;obtain⟨g1,g2,g3⟩:=Sim.relL zs k1 (fun y hy=>⟨(k3 _).2 (hz y (.tail _ hy)).1,(hz y (.tail _ hy)).2⟩)
  have e:at1 (S.h (S.H.rel1 z)).H.sr zs=at1 S.H.sr zs:=at1_congr fun y _=>k2 _
  rw[e]at g1;exact⟨g1,fun x=>(g2 x).trans (k2 x),fun x=>(g3 x).trans (k3 x)⟩
theorem Sim.undo1 (h:Sim S L A){u:Un}(hu:∀ q ∈ u.places,S.H.C q)(h1:-9223372036854775808≤u.old∧u.old≤9223372036854775807)(hL:u.kind=1→S.H.sr u.pos ∉ L.l) :
  Sim (S.h (S.H.undo1 u)) L (A.h (A.heap.undo1 (u.at' S.H.sr)))∧(∀ x,(S.H.undo1 u).sr x=S.H.sr x)∧∀ x,(S.H.undo1 u).C x↔S.H.C x:=by
 have hp:S.H.C u.pos:=hu _ (by unfold Un.places;split<;>simp)
 unfold Hp.undo1 Ag.undo1 Un.at';by_cases e:u.kind=1
 ·rw[if_pos e,if_pos e,if_pos e]
  have hq:S.H.C u.old.toNat:=hu _ (by unfold Un.places;rw[if_pos e];simp)
  exact⟨h.setptr hp u.i hq (hL e),ptr_same _ _ _ _⟩
 ·rw[if_neg e,if_neg e,if_neg e]
  by_cases e2:u.kind=2
  ·rw[if_pos e2,if_pos e2]
   exact⟨h.setnum hp u.i h1,num_same _ _ _ _⟩
  ·rw[if_neg e2,if_neg e2]
   by_cases e3:u.kind=3
   ·rw[if_pos e3,if_pos e3]
    exact⟨h.freed hp _,freed_same _ _ _⟩
   ·rw[if_neg e3,if_neg e3];exact⟨h,fun _=>rfl,fun _=>Iff.rfl⟩
theorem Sim.undoL (h:Sim S L A):∀ (us:List Un)(_:∀ u ∈ us,(∀ q ∈ u.places,S.H.C q)∧(-9223372036854775808≤u.old∧u.old≤9223372036854775807)∧(u.kind=1→S.H.sr u.pos ∉ L.l)),
  Sim (S.h (S.H.undoL us)) L (A.h (A.heap.undoL (us.map (Un.at' S.H.sr))))∧(∀ x,(S.H.undoL us).sr x=S.H.sr x)∧∀ x,(S.H.undoL us).C x↔S.H.C x
 | [],_=>⟨h,fun _=>rfl,fun _=>Iff.rfl⟩
 | u::us,hu=>by
  obtain⟨g1,g2,g3⟩:=Sim.undoL h us fun v hv=>hu v (.tail _ hv)
  obtain⟨h1,h2,h3⟩:=hu u (.head _);obtain⟨k1,k2,k3⟩:=g1.undo1 (u:=u) (fun q hq=>(g3 q).2 (h1 q hq)) h2 (fun e=>by rw[show (S.h (S.H.undoL us)).H.sr u.pos=S.H.sr u.pos from g2 _];exact h3 e)
  have e:u.at' (S.h (S.H.undoL us)).H.sr=u.at' S.H.sr:=Un.at_congr fun q _=>g2 q
  rw[e]at k1;exact⟨k1,fun x=>(k2 x).trans (g2 x),fun x=>(k3 x).trans (g3 x)⟩
theorem Tx.ab_ended (g:Nat→Nat)(x:Tx):x.ended.ab g=(x.ab g).ended:=rfl
theorem ended_places (x:Tx):x.ended.places=[]:=rfl
theorem Sim.abort (h:Sim S L A) (hh:A.hld) (hi:i<S.txs.length) (hf:Few (S.t i) k m):Sim (S.abort i) L (A.abort i)∧Few ((S.abort i).t i) 0 m∧(S.abort i).txs.length=S.txs.length:=by
 have hok:=Stt.ok_abort h.ok hi;have hfit:=h.ok.lgt hi;obtain⟨g1,g2,g3⟩:=h.undoL (S.t i).log.undos fun u hu=>⟨fun q hq=>h.tpl hi q (by unfold Tx.places Lg.roots;simp only[List.mem_append,List.mem_flatMap];exact .inl (.inr ⟨u,hu,hq⟩)),hfit.un u hu,fun e=>by
  obtain⟨a,h1,h2⟩:=hh.u i _ (by rw[h.tx,List.getElem?_map,Stt.t_get hi];rfl) (u.at' S.H.sr) (List.mem_map.2 ⟨u,hu,rfl⟩) (by unfold Un.at';rw[if_pos e];exact e)
  unfold Un.at' at h1;rw[if_pos e]at h1;exact notL h (by unfold Ag.wk;rw[h1];exact h2) ⟨a,h1⟩⟩
 obtain⟨k1,k2,k3⟩:=Sim.relL (S.t i).log.holds g1 fun z hz=>⟨(g3 _).2 (h.tpl hi _ (by unfold Tx.places Lg.roots;simp only[List.mem_append,List.mem_map];exact .inl (.inl (.inr ⟨z,hz,rfl⟩)))),hfit.hv z hz⟩
 rw[at1_congr (g:=(S.h (S.H.undoL (S.t i).log.undos)).H.sr) (g':=S.H.sr) fun z _=>g2 _]at k1
 have hsr:∀ x,(((S.H.undoL (S.t i).log.undos).relL (S.t i).log.holds)).sr x=S.H.sr x:=fun x=>(k2 x).trans (g2 x)
 have hC:∀ x,(((S.H.undoL (S.t i).log.undos).relL (S.t i).log.holds)).C x↔S.H.C x:=fun x=>(k3 x).trans (g3 x)
 have e1:A.t i=(S.t i).ab S.H.sr:=h.at hi;have e2:(A.heap.undoL ((S.t i).log.undos.map (Un.at' S.H.sr))).relL (at1 S.H.sr (S.t i).log.holds)=(A.heap.undoL (A.t i).undos).relL (A.t i).holds:=by rw[e1];rfl
 have k1':Sim (S.h ((S.H.undoL (S.t i).log.undos).relL (S.t i).log.holds)) L (A.h ((A.heap.undoL (A.t i).undos).relL (A.t i).holds)):=by rw[←e2];exact k1
 have hsr':(S.h ((S.H.undoL (S.t i).log.undos).relL (S.t i).log.holds)).H.sr=S.H.sr:=funext hsr;refine⟨?_,?_,?_⟩
 ·unfold Stt.abort As.abort at *
  have ht:(A.txs.set i (A.t i).ended)=(S.txs.set i (S.t i).ended).map (Tx.ab S.H.sr):=by rw[h.tx,List.map_set,e1,Tx.ab_ended]
  have hpl:∀ (q:List (Nat×Nat)),(∀ z ∈ q,S.H.C z.1)→∀ p,((∃ z ∈ q,z.1=p)∨∃ x ∈ S.txs.set i (S.t i).ended,p ∈ x.places)→(S.h ((S.H.undoL (S.t i).log.undos).relL (S.t i).log.holds)).H.C p:=by
   intro q hq p hp;refine (hC p).2 ?_;rcases hp with ⟨z,hz,rfl⟩|⟨x,hx,hp⟩
   ·exact hq z hz
   ·rcases List.mem_or_eq_of_mem_set hx with h3|rfl
    ·exact h.pl p (places_mem.2 (.inr ⟨x,h3,hp⟩))
    ·rw[ended_places]at hp;cases hp
  unfold Stt.untake As.untake at *;rw[show (A.h ((A.heap.undoL (A.t i).undos).relL (A.t i).holds)).holder=S.holder from h.ho];by_cases e:S.holder=(i:Int)
  ·rw[if_pos (show (S.h ((S.H.undoL (S.t i).log.undos).relL (S.t i).log.holds)).holder=(i:Int) from e)]at hok ⊢
   rw[if_pos e];refine k1'.meta hok rfl rfl rfl rfl h.now h.most h.next rfl h.ver (by rw[hsr'];exact ht) ?_ fun p hp=>hpl _ (fun z hz=>?_) p (places_mem.1 hp)
   ·show (A.t i).took++A.queue=at1 _ ((S.t i).took++S.queue)
    rw[hsr',e1,h.qu];unfold at1;rw[List.map_append];rfl
   ·rcases List.mem_append.1 (show z ∈ (S.t i).took++S.queue from hz) with h3|h3
    ·exact h.tpl hi _ (by unfold Tx.places;simp only[List.mem_append,List.mem_map];exact .inr ⟨z,h3,rfl⟩)
    ·exact h.qpl h3
  ·rw[if_neg (show ¬(S.h ((S.H.undoL (S.t i).log.undos).relL (S.t i).log.holds)).holder=(i:Int) from e)]at hok ⊢
   rw[if_neg e];refine k1'.meta hok rfl rfl rfl rfl h.now h.most h.next h.ho h.ver (by rw[hsr'];exact ht) (by rw[hsr'];exact h.qu) fun p hp=>hpl _ (fun z hz=>h.qpl hz) p (places_mem.1 hp)
 ·unfold Stt.abort
  rw[Stt.tx_t (by unfold Stt.untake;split<;>exact hi)];exact hf.ended
 ·unfold Stt.abort
  rw[Stt.tx_len];unfold Stt.untake;split<;>rfl
theorem any_congr' {α:Type}{f g:α→Bool}:∀ {l:List α},(∀ x ∈ l,f x=g x)→l.any f=l.any g
 | [],_=>rfl
 | x::l,h=>by rw[List.any_cons,List.any_cons,h x (.head _),any_congr' fun y hy=>h y (.tail _ hy)]
theorem Sim.clashes (h:Sim S L A)(hi:i<S.txs.length):A.clashes i=S.clashes i:=by
 unfold As.clashes Stt.clashes;rw[h.at hi];show ((S.t i).log.reads.map S.H.sr).any _=_;rw[List.any_map];refine any_congr' fun p hp=>?_
 show clashB i (S.t i).start _=_;rw[h.sec (h.tpl hi p (by unfold Tx.places Lg.roots;simp[hp]))]
theorem Sim.commit (h : Sim S L A) (hi : i < S.txs.length) (hl : (S.t i).live = true) (hf : Few (S.t i) k m) : Tw2 (S.commitR i) L (A.commitR i) i S.txs.length k m := by
  have hok := (good_commitR h.ok hi hl).1
  have e1 : A.t i = (S.t i).ab S.H.sr := h.at hi
  have hend : Few (S.t i).ended k m := hf.ended.mono (by omega)
  by_cases e : (S.t i).log.holds = [] ∧ S.holder ≠ (i : Int)
  · have e2 : S.commitR i = ⟨S.tx i (S.t i).ended, 0, 0⟩ := by unfold Stt.commitR; rw [if_pos e]
    have e3 : A.commitR i = ⟨A.tx i (A.t i).ended, 0, 0⟩ := by unfold As.commitR; rw [if_pos ⟨by rw [e1]; show at1 _ _ = _; rw [e.1]; rfl, by rw [h.ho]; exact e.2⟩]
    rw [e2] at hok ⊢; rw [e3]
    have := h.setx (i := i) (x := (S.t i).ended) hok (fun p hp => by rw [ended_places] at hp; cases hp)
    rw [Tx.ab_ended, ← e1] at this
    exact ⟨this, rfl, rfl, by show Few ((Stt.tx _ _ _).t i) _ _; rw [Stt.tx_t hi]; exact hend, Stt.tx_len _ _ _⟩
  · have eA : ¬ ((A.t i).holds = [] ∧ A.holder ≠ (i : Int)) := fun hc => e ⟨by have : at1 S.H.sr (S.t i).log.holds = [] := by rw [e1] at hc; exact hc.1
                                                                               simpa [at1] using this, by rw [← h.ho]; exact hc.2⟩
    by_cases e4 : S.clashes i = true
    · have e2 : S.commitR i = ⟨S, 0, 141⟩ := by unfold Stt.commitR; rw [if_neg e, if_pos e4]
      have e3 : A.commitR i = ⟨A, 0, 141⟩ := by unfold As.commitR; rw [if_neg eA, h.clashes hi, if_pos e4]
      rw [e2, e3]; exact ⟨h, rfl, rfl, hf, rfl⟩
    · have e2 : S.commitR i = ⟨(S.tickR i).tx i (S.t i).ended, (S.now : Int) + 1, 0⟩ := by unfold Stt.commitR; rw [if_neg e, if_neg e4]
      have e3 : A.commitR i = ⟨(A.tick i).tx i (A.t i).ended, (A.now : Int) + 1, 0⟩ := by unfold As.commitR; rw [if_neg eA, h.clashes hi, if_neg e4]
      rw [e2] at hok ⊢; rw [e3]
      have h1 := h.ok.n1
      have h2 := h.ok.n2
      have hlv := h.ok.lv
      have hpos : S.now + 1 ≤ 1099511627776 := by
        have : 0 < liveN S.txs := by
          unfold liveN
          exact List.length_pos_of_mem (List.mem_filter.2 ⟨List.mem_of_getElem? (Stt.t_get hi), hl⟩)
        omega
      obtain ⟨g1, g2, g3⟩ := Sim.comL (S.t i).log.holds h (fun z hz => h.tpl hi _ (by unfold Tx.places Lg.roots; simp only [List.mem_append, List.mem_map]; exact .inl (.inl (.inr ⟨z, hz, rfl⟩)))) hpos
      have hsr : (S.h (S.H.comL (S.t i).log.holds (S.now + 1))).H.sr = S.H.sr := funext g2
      have e5 : (A.tick i).heap = A.heap.comL (at1 S.H.sr (S.t i).log.holds) (S.now + 1) := by
        unfold As.tick; rw [h.now, e1]; split <;> rfl
      have e6 : (S.tickR i).H = S.H.comL (S.t i).log.holds (S.now + 1) := by unfold Stt.tickR; split <;> rfl
      refine ⟨g1.meta hok (by show (S.tickR i).H = _; rw [e6]; rfl) (by show (A.tick i).heap = _; rw [e5]; rfl) ?_ ?_ ?_ ?_ ?_ ?_ ?_ ?_ ?_ fun p hp => ?_, by show ((S.now : Int) + 1) = (A.now : Int) + 1; rw [h.now], rfl, ?_, ?_⟩
      · unfold As.tick As.tx; split <;> rfl
      · unfold As.tick As.tx; split <;> rfl
      · show (A.tick i).now = (S.tickR i).now
        unfold As.tick Stt.tickR; rw [h.ho, h.now]; split <;> rfl
      · show (A.tick i).most = (S.tickR i).most
        unfold As.tick Stt.tickR; rw [h.ho]; split <;> exact h.most
      · show (A.tick i).next = (S.tickR i).next
        unfold As.tick Stt.tickR; rw [h.ho]; split <;> exact h.next
      · show (A.tick i).holder = (S.tickR i).holder
        unfold As.tick Stt.tickR; rw [h.ho]; split <;> rfl
      · show (A.tick i).version = (S.tickR i).version
        unfold As.tick Stt.tickR; rw [h.ho, h.now]; split
        · rfl
        · exact h.ver
      · rw [hsr]
        show (A.tick i).txs.set i _ = ((S.tickR i).txs.set i _).map _
        rw [List.map_set, Tx.ab_ended, ← e1]
        unfold As.tick Stt.tickR; rw [h.ho]; split <;> (show A.txs.set _ _ = (S.txs.map _).set _ _; rw [h.tx])
      · rw [hsr]
        show (A.tick i).queue = at1 _ (S.tickR i).queue
        unfold As.tick Stt.tickR; rw [h.ho]; split <;> exact h.qu
      · refine (g3 p).2 ?_
        have e7 : (S.tickR i).queue = S.queue ∧ (S.tickR i).txs = S.txs := by unfold Stt.tickR; split <;> exact ⟨rfl, rfl⟩
        rcases places_mem.1 hp with ⟨z, hz, rfl⟩ | ⟨x, hx, hp⟩
        · exact h.qpl (by rw [← e7.1]; exact hz)
        · rcases List.mem_or_eq_of_mem_set (show x ∈ (S.tickR i).txs.set i _ from hx) with h3 | rfl
          · exact h.pl p (places_mem.2 (.inr ⟨x, by rw [← e7.2]; exact h3, hp⟩))
          · rw [ended_places] at hp; cases hp
      · show Few ((Stt.tx _ _ _).t i) _ _
        rw [Stt.tx_t (by unfold Stt.tickR; split <;> exact hi)]; exact hend
      · show (Stt.tx _ _ _).txs.length = _
        rw [Stt.tx_len]; unfold Stt.tickR; split <;> rfl
theorem liveA_map (g:Nat→Nat)(l:List Tx):liveA (l.map (Tx.ab g))=liveN l:=by
 unfold liveA liveN;rw[List.filter_map,List.length_map];rfl
theorem Sim.begin (h:Sim S L A) (hi:i<S.txs.length):Sim (S.beginR i).1 L (A.beginR i).1∧(S.beginR i).2=(A.beginR i).2∧(S.beginR i).1.txs.length=S.txs.length∧(∀ k m,Few (S.t i) k m→Few ((S.beginR i).1.t i) k m):=by
 have hok:=ok_beginR h.ok hi;have e1:A.t i=(S.t i).ab S.H.sr:=h.at hi;unfold Stt.beginR As.beginR at *;rw[show (A.t i).live=(S.t i).live from by rw[e1];rfl]
 by_cases e:(S.t i).live=true
 ·grind
 ·rw[if_neg e]at hok ⊢;rw[if_neg e]
  rw[show A.now+(liveA A.txs+1)=S.now+(liveN S.txs+1) from by rw[h.tx,liveA_map,h.now],h.most]
  by_cases e2:S.now+(liveN S.txs+1)≤S.most
  ·rw[if_pos e2]at hok ⊢;rw[if_pos e2]
   have:=h.setx (i:=i) (x:=(S.t i).begun S.now S.next) hok (fun p hp=>h.tpl hi p hp)
   have e3:((S.t i).begun S.now S.next).ab S.H.sr=(A.t i).begun A.now A.next:=by rw[e1,h.now,h.next];rfl
   rw[e3]at this;exact⟨this,rfl,Stt.tx_len _ _ _,fun k m hf=>by rw[Stt.tx_t hi];exact⟨hf.r,hf.kp,hf.h,hf.u,hf.mr,hf.mu⟩⟩
  ·grind
theorem Tw2.fin {R:Res}{Q:ARes}{n:Nat}(h:Tw2 R L Q i n k m)(hh:Q.A.hld)(hi:i<n):Tw2 (R.fin i) L (Q.fin i) i n k m:=by
 unfold Res.fin ARes.fin;rw[←h.e];split
 ·obtain⟨g1,g2,g3⟩:=h.sim.abort hh (by rw[h.len];exact hi) h.few
  exact⟨g1,rfl,rfl,g2.mono (by omega),g3.trans h.len⟩
 ·split
  ·exact h
  ·exact⟨h.sim,rfl,rfl,h.few,h.len⟩
theorem Twp.fin {R:Res}{Q:ARes}{n:Nat}(h:Twp R L Q i n k m)(hh:Q.A.hld)(hi:i<n):Twp (R.fin i) L (Q.fin i) i n k m:=by
 unfold Res.fin ARes.fin;rw[←h.e];split
 ·rename_i e
  obtain⟨g1,g2,g3⟩:=h.sim.abort hh (by rw[h.len];exact hi) h.few
  exact⟨g1,fun e0=>(by rw[show R.e=0 from e0]at e;cases e),rfl,g2.mono (by omega),g3.trans h.len⟩
 ·split
  ·exact h
  ·rename_i e;exact⟨h.sim,fun e0=>absurd e0 e,rfl,h.few,h.len⟩
theorem Tw2.deed {R:Res}{Q:ARes}(h0:Sim S L A)(h:Tw2 R L Q i S.txs.length k m)(hh:Q.A.hld)(hi:i<S.txs.length)(hf:Few (S.t i) k m):Tw2 (S.deedR i R) L (A.deedR i Q) i S.txs.length k m:=by
 unfold Stt.deedR As.deedR;rw[show (A.t i).live=(S.t i).live from by rw[h0.at hi];rfl]
 split
 ·exact h.fin hh hi
 ·exact⟨h0,rfl,rfl,hf,rfl⟩
theorem Twp.deed {R:Res}{Q:ARes}(h0:Sim S L A)(h:Twp R L Q i S.txs.length k m)(hh:Q.A.hld)(hi:i<S.txs.length)(hf:Few (S.t i) k m):Twp (S.deedR i R) L (A.deedR i Q) i S.txs.length k m:=by
 unfold Stt.deedR As.deedR;rw[show (A.t i).live=(S.t i).live from by rw[h0.at hi];rfl]
 split
 ·exact h.fin hh hi
 ·exact⟨h0,fun e=>(by cases e),rfl,hf,rfl⟩
end
def As.come (A:As)(s:Nat):As:={ A with queue:=A.queue++[(s,A.next)],next:=A.next+1 }
def As.comes (A:As)(l:List Nat):As:=l.foldl As.come A
section
variable {S : Stt} {L : Cx} {A : As} {i p k m : Nat}
theorem Tx.ab_at (f g:Nat→Nat)(x:Tx):(x.at' g).ab f=x.ab fun p=>f (g p):=by
 unfold Tx.ab Tx.at' Lg.at' at1;simp only[List.map_map];congr 1;refine List.map_congr_left fun u _=>?_
 unfold Un.at';grind
theorem at_places (g:Nat→Nat)(x:Tx):∀ p ∈ (x.at' g).places,∃ q ∈ x.places,p=g q:=by
 intro p hp;unfold Tx.places Lg.roots Tx.at' Lg.at' at1 at hp;unfold Tx.places Lg.roots;simp only[List.mem_append,List.mem_map,List.mem_flatMap]at hp ⊢;rcases hp with (((⟨q,hq,rfl⟩|⟨q,hq,rfl⟩)|⟨z,⟨y,hy,rfl⟩,rfl⟩)|⟨u,⟨v,hv,rfl⟩,hu⟩)|⟨z,⟨y,hy,rfl⟩,rfl⟩
 ·grind
 ·grind
 ·grind
 ·unfold Un.places Un.at' at hu
  by_cases e:v.kind=1
  ·simp only[e,if_true,List.mem_cons,List.not_mem_nil,or_false,Int.toNat_natCast]at hu
   rcases hu with rfl|rfl
   ·exact⟨v.pos,.inl (.inr ⟨v,hv,by unfold Un.places;rw[if_pos e];simp⟩),rfl⟩
   ·exact⟨v.old.toNat,.inl (.inr ⟨v,hv,by unfold Un.places;rw[if_pos e];simp⟩),rfl⟩
  ·simp only[e,if_false,List.mem_cons,List.not_mem_nil,or_false]at hu
   subst hu;exact⟨v.pos,.inl (.inr ⟨v,hv,by unfold Un.places;rw[if_neg e];simp⟩),rfl⟩
 ·grind
theorem places_roots (S:Stt)(roots:List Nat)(p:Nat):p ∈ S.places roots↔p ∈ roots∨p ∈ S.places []:=by
 unfold Stt.places;simp only[List.mem_append,List.nil_append];grind
theorem Sim.collect (h:Sim S ⟨L.l,[],[]⟩ A){roots:List Nat}(hr:∀ r ∈ roots,S.H.C r)(hm:S.may roots=true) :
  ∃ g:Nat→Nat,S.collectR roots=((S.begun roots).at' g,roots.map g,true)∧Sim ((S.begun roots).at' g) ⟨L.l,roots.map g,roots.map S.H.sr⟩ A:=by
 have h0:S.ph=0:=by unfold Stt.may at hm;simp at hm;exact hm.1
 have hmv:S.H.moving=false:=h.ok.ph.2.1 h0;obtain⟨f1,f2,f3⟩:=h.gc.flip hmv;have hC:∀ p ∈ S.places roots,S.H.C p:=fun p hp=>((places_roots S roots p).1 hp).elim (hr p) (h.pl p)
 obtain⟨g1,g2,g3,g4⟩:=Gc.movedL (S.places roots) f1 fun x hx=>f2 x (hC x hx)
 have hn:=movedL_now (S.places roots) S.H.flip;have hres:∀ p ∈ S.places roots,(S.begun roots).H.C ((S.begun roots).H.now p)∧(S.begun roots).H.sr ((S.begun roots).H.now p)=S.H.sr p:=by
  intro p hp;have h1:(S.begun roots).H.now p ∈ (S.H.flip.movedL (S.places roots)).2:=by rw[hn];exact List.mem_map.2 ⟨p,hp,rfl⟩
  refine⟨g3 _ h1,?_⟩;rw[hn,List.map_map]at g4;have:=List.map_inj_left.1 g4 p hp;exact this.trans (f3 p)
 have hok:=ok_collectR h.ok roots;have e:S.collectR roots=((S.begun roots).at' (S.begun roots).H.now,roots.map (S.begun roots).H.now,true):=by unfold Stt.collectR;rw[if_pos hm]
 rw[e]at hok;have hpl:∀ p ∈ ((S.begun roots).at' (S.begun roots).H.now).places [],∃ q ∈ S.places [],p=(S.begun roots).H.now q:=by
  intro p hp;rcases places_mem.1 hp with ⟨z,hz,rfl⟩|⟨x,hx,hp⟩
  ·obtain⟨y,hy,rfl⟩:=List.mem_map.1 (show z ∈ at1 _ S.queue from hz)
   exact⟨y.1,places_mem.2 (.inl ⟨y,hy,rfl⟩),rfl⟩
  ·obtain⟨y,hy,rfl⟩:=List.mem_map.1 (show x ∈ S.txs.map _ from hx)
   obtain⟨q,hq,rfl⟩:=at_places _ _ p hp;exact⟨q,places_mem.2 (.inr ⟨y,hy,hq⟩),rfl⟩
 refine⟨(S.begun roots).H.now,e,⟨hok,g1,?_,h.now,h.most,h.next,h.ho,h.ver,?_,?_,fun p hp=>?_,fun p hp=>?_,?_,by show A.sz=(S.H.flip.movedL (S.places roots)).1.size;rw[(movedL_same _ _).1];exact h.sz⟩⟩
 ·show A.ser=(S.H.flip.movedL (S.places roots)).1.serial
  rw[(movedL_same _ _).2.2.2.2.1];exact h.ser
 ·rw[h.tx]
  show S.txs.map _=(S.txs.map _).map _;rw[List.map_map];refine List.map_congr_left fun x hx=>?_
  show _=(x.at' _).ab _;rw[Tx.ab_at];exact Tx.ab_congr fun p hp=>(hres p ((places_roots S roots p).2 (.inr (places_mem.2 (.inr ⟨x,hx,hp⟩))))).2.symm
 ·rw[h.qu]
  show at1 _ S.queue=at1 _ (at1 _ S.queue);unfold at1;rw[List.map_map];refine List.map_congr_left fun z hz=>?_
  exact congrArg (fun n=>(n,z.2)) (hres z.1 ((places_roots S roots _).2 (.inr (places_mem.2 (.inl ⟨z,hz,rfl⟩))))).2.symm
 ·obtain⟨q,hq,rfl⟩:=hpl p hp
  exact (hres q ((places_roots S roots q).2 (.inr hq))).1
 ·obtain⟨r,hr',rfl⟩:=List.mem_map.1 hp
  exact (hres r ((places_roots S roots r).2 (.inl hr'))).1
 ·show (roots.map _).map _=roots.map _
  rw[List.map_map];exact List.map_congr_left fun r hr'=>(hres r ((places_roots S roots r).2 (.inl hr'))).2
theorem Sim.ready1 {R:Nat→Prop}(h:Sim S L A)(hp:S.H.C p∧∃ a,A.heap (S.H.sr p)=some a∧a.shp.final=true∧R (S.H.sr p))(hok:(S.ready1 p).ok):∃ cs,Sim (S.ready1 p) L (A.comes cs)∧(S.ready1 p).came=S.came++cs∧(S.ready1 p).H=S.H∧(S.ready1 p).txs=S.txs∧(S.ready1 p).lost=S.lost∧∀ s ∈ cs,∃ a,A.heap s=some a∧a.shp.final=true∧a.fr=false∧R s:=by
 obtain⟨hp,a,ha,hfin,hR⟩:=hp;unfold Stt.ready1 at *;split
 ·exact⟨[],h,by simp,rfl,rfl,rfl,fun s hs=>by cases hs⟩
 ·rename_i e
  rw[if_neg e]at hok;have hser:(S.H.serR p).1=S.H.sr p:=by
   unfold Hp.serR;by_cases h0:p=0
   ·subst h0;rw[h.gc.cor.z.1,h.gc.sr0]
   ·obtain⟨b,a,h1,h2,_⟩:=h.obj hp h0
    rw[h1,h2]
  refine⟨[S.H.sr p],h.meta (A':=A.come (S.H.sr p)) hok rfl rfl rfl rfl h.now h.most ?_ h.ho h.ver h.tx ?_ fun q hq=>?_,by rw[hser],rfl,rfl,rfl,fun s hs=>?_⟩
  ·show A.next+1=S.next+1;rw[h.next]
  ·show A.queue++[(_,A.next)]=at1 _ (S.queue++[_])
   rw[h.qu,h.next];unfold at1;rw[List.map_append];rfl
  ·rcases places_mem.1 hq with ⟨z,hz,rfl⟩|⟨x,hx,hp'⟩
   ·rcases List.mem_append.1 (show z ∈ S.queue++[_] from hz) with h1|h1
    ·exact h.qpl h1
    ·grind
   ·exact h.pl q (places_mem.2 (.inr ⟨x,hx,hp'⟩))
  ·rw[List.mem_singleton.1 hs]
   refine⟨a,ha,hfin,?_,hR⟩;have h0:p≠0:=fun h0=>by rw[h0,h.gc.sr0,h.gc.cor.az]at ha;cases ha
   obtain⟨b,a',h1,h2,h3,h4⟩:=h.obj hp h0;rw[ha]at h3;injection h3 with h3;rw[h3,h4.fr]
   cases k:b.freed
   ·rfl
   ·exact absurd (.inl (by unfold Hp.freedAt;rw[h1];exact k)) e
theorem comes_heap:∀ (cs:List Nat)(A:As),(A.comes cs).heap=A.heap
 | [],_=>rfl
 | _::cs,A=>comes_heap cs (A.come _)
theorem comes_app (A:As)(a b:List Nat):A.comes (a++b)=(A.comes a).comes b:=by unfold As.comes;rw[List.foldl_append]
theorem Sim.readyL {R:Nat→Prop}:∀ (l:List Nat){S:Stt}{A:As}(_:Sim S L A)(_:∀ p ∈ l,S.H.C p∧∃ a,A.heap (S.H.sr p)=some a∧a.shp.final=true∧R (S.H.sr p))(_:S.next+S.H.final.length+l.length≤S.H.serial),∃ cs,Sim (S.readyL l) L (A.comes cs)∧(S.readyL l).came=S.came++cs∧(S.readyL l).H=S.H∧(S.readyL l).txs=S.txs∧(S.readyL l).lost=S.lost∧∀ s ∈ cs,∃ a,A.heap s=some a∧a.shp.final=true∧a.fr=false∧R s
 | [],S,A,h,_,_=>⟨[],h,by simp[Stt.readyL],rfl,rfl,rfl,fun s hs=>by cases hs⟩
 | p::l,S,A,h,hp,hn=>by
  obtain⟨k1,k2,k3,_⟩:=ok_ready1 h.ok p (k:=l.length) hn;obtain⟨cs,g1,g2,g3,g4,g5,g6⟩:=h.ready1 (hp p (.head _)) k1;obtain⟨ds,q1,q2,q3,q4,q5,q6⟩:=Sim.readyL l g1 (fun q hq=>by rw[g3,comes_heap];exact hp q (.tail _ hq)) k2
  refine⟨cs++ds,by rw[comes_app];exact q1,?_,q3.trans g3,q4.trans g4,q5.trans g5,fun s hs=>?_⟩
  ·show ((S.ready1 p).readyL l).came=_
   grind
  ·rcases List.mem_append.1 hs with h1|h1
   ·grind
   ·have:=q6 s h1;rw[comes_heap]at this;exact this
structure Stp1 (S S':Stt)(L:Cx)(A:As):Prop where
 ex:∃ ls cs,Sim S' { L with l:=L.l++ls } (A.comes cs)∧S'.lost=S.lost++ls∧S'.came=S.came++cs∧∀ s ∈ cs,∃ a,A.heap s=some a∧a.shp.final=true∧a.fr=false∧∀ q,S.H.C q→S.H.sr q≠s
 tx:S'.txs=S.txs
theorem scan1_fin (H:Hp):H.scan1.1.size=H.size∧H.scan1.1.serial=H.serial:=by
 unfold Hp.scan1;split
 ·grind
 ·split
  ·grind
  ·split
   ·grind
   ·exact⟨(movedL_same _ _).1,(movedL_same _ _).2.2.2.2.1⟩
theorem Sim.step (h:Sim S L A):Stp1 S S.stepR.1 L A:=by
 obtain⟨k1,k2⟩:=ok_cycR h.ok;have key:∃ ls,Sim S.cycR.1 { L with l:=L.l++ls } A∧S.cycR.1.lost=S.lost++ls∧S.cycR.1.came=S.came∧S.cycR.1.txs=S.txs∧∀ p ∈ S.cycR.2.1,S.cycR.1.H.C p∧∃ a,A.heap (S.cycR.1.H.sr p)=some a∧a.shp.final=true∧∀ q,S.H.C q→S.H.sr q≠S.cycR.1.H.sr p:=by
  unfold Stt.cycR at *;split
  ·exact⟨[],by rw[List.append_nil];exact h,by simp,rfl,rfl,fun p hp=>by cases hp⟩
  ·rename_i h0
   rw[if_neg h0]at k1;split
   ·rename_i h1
    rw[if_pos h1]at k1;obtain⟨g1,g2⟩:=h.gc.scan1;refine⟨[],?_,by simp[Stt.h],rfl,rfl,fun p hp=>by cases hp⟩
    rw[List.append_nil];exact h.evo k1 g1 g2 (scan1_fin _).2 (scan1_fin _).1
   ·rename_i h1
    rw[if_neg h1]at k1;split
    ·rename_i h2
     rw[if_pos h2]at k1;obtain⟨g1,g2,g3⟩:=h.gc.finals;have hs:S.H.finals.1.serial=S.H.serial∧S.H.finals.1.size=S.H.size:=by
      unfold Hp.finals;split
      ·exact⟨rfl,rfl⟩
      ·exact⟨(movedL_same _ _).2.2.2.2.1,(movedL_same _ _).1⟩
     refine⟨[],?_,by simp,rfl,rfl,g3⟩
     rw[List.append_nil];exact⟨k1,g1,by rw[hs.1];exact h.ser,h.now,h.most,h.next,h.ho,h.ver,
      h.tx.trans (List.map_congr_left fun x hx=>Tx.ab_congr fun p hp=>(g2.s p (CF.V (h.pl p (places_mem.2 (.inr ⟨x,hx,hp⟩))))).symm),
      h.qu.trans (at1_congr fun z hz=>(g2.s _ (CF.V (h.qpl hz))).symm),fun p hp=>g2.c p (h.pl p hp),fun p hp=>g2.c p (h.ex p hp),(List.map_congr_left fun p hp=>g2.s p (CF.V (h.ex p hp))).trans h.ey,by rw[hs.2];exact h.sz⟩
    ·rename_i h2
     rw[if_neg h2]at k1;obtain⟨g1,g2⟩:=h.gc.drop;have hs:S.H.drop.1.serial=S.H.serial∧S.H.drop.1.size=S.H.size:=by
      unfold Hp.drop;split
      ·exact⟨rfl,rfl⟩
      ·exact⟨(dropL_ser _ _:(S.H.settled.dropL S.H.settled.weak).1.serial=S.H.settled.serial),(dropL_same S.H.settled.weak S.H.settled).2.2.2.2.2.1⟩
     refine⟨S.H.drop.2.1,?_,rfl,rfl,rfl,fun p hp=>by cases hp⟩
     exact⟨k1,g1,by rw[hs.1];exact h.ser,h.now,h.most,h.next,h.ho,h.ver,
      h.tx.trans (List.map_congr_left fun x hx=>Tx.ab_congr fun p hp=>(g2 p (h.pl p (places_mem.2 (.inr ⟨x,hx,hp⟩)))).2.symm),
      h.qu.trans (at1_congr fun z hz=>(g2 _ (h.qpl hz)).2.symm),fun p hp=>(g2 p (h.pl p hp)).1,fun p hp=>(g2 p (h.ex p hp)).1,(List.map_congr_left fun p hp=>(g2 p (h.ex p hp)).2).trans h.ey,by rw[hs.2];exact h.sz⟩
 obtain⟨ls,q1,q2,q3,q4,q5⟩:=key;obtain⟨cs,r1,r2,r3,r4,r5,r6⟩:=Sim.readyL (R:=fun s=>∀ q,S.H.C q→S.H.sr q≠s) S.cycR.2.1 q1 q5 k2
 refine⟨⟨ls,cs,r1,by show (S.cycR.1.readyL _).lost=_;rw[r5,q2],by show (S.cycR.1.readyL _).came=_;rw[r2,q3],r6⟩,by show (S.cycR.1.readyL _).txs=_;rw[r4,q4]⟩
end
end Go.Proofs.YteehgedabdchcaaGreat
namespace Go.Proofs.YteehgedabdchcaaGreat
open Go.RowKit Hp
section
variable {P : Program} {ops : Array Oper} {Q : Exit → Act → World → Prop} {md : Region.Mode} {S : World → Prop} {n : Nat}
def wpAnyT (P:Program)(md:Region.Mode)(ops:Array Oper)(Q:Exit→Act→World→Prop)(S:World→Prop)(n:Nat):Nat→Array Bool→Act→World→Prop
 | 0,listed,a,w=>Region.ready md ops listed=[]∧Q .normal a w
 | fuel+1,listed,a,w =>
  (Region.ready md ops listed=[]→Q .normal a w) ∧
  ∀ i ∈ Region.ready md ops listed,wpOp P ops Q i (fun a' w'=>(i<n→S w')∧wpAnyT P md ops Q S n fuel (listed.setIfInBounds i true) a' w') a w
theorem wpAny_of_T:∀ (fuel:Nat)(listed:Array Bool)(a:Act)(w:World),wpAnyT P md ops Q S n fuel listed a w→wpAny P md ops Q fuel listed a w
 | 0,_,_,_,h=>h
 | fuel+1,_,_,_,h=>⟨h.1,fun i hi=>wpOp_mono (fun a' w' h'=>wpAny_of_T fuel _ a' w' h'.2) (h.2 i hi)⟩
def lateB (md:Region.Mode)(ops:Array Oper)(n i:Nat):Bool:=(List.range ops.size).all fun j=>decide (j<n)||(ops[j]?.map fun o=>o.after.any fun e=>Region.binds md e&&e.on==i).getD true
theorem lateB_spec {i:Nat}(h:lateB md ops n i=true){j:Nat}{oj:Oper}(hj:ops[j]?=some oj)(hn:n≤j):∃ e ∈ oj.after,Region.binds md e=true∧e.on=i:=by
 have hlt:=(Array.getElem?_eq_some_iff.1 hj).1;have h1:=List.all_eq_true.1 h j (List.mem_range.2 hlt);rw[hj,decide_eq_false (by omega)]at h1
 simp only[Bool.false_or,Option.map_some,Option.getD_some]at h1;obtain⟨k,hk,h2⟩:=Array.any_eq_true.1 h1;simp only[Bool.and_eq_true,beq_iff_eq]at h2;exact⟨_,Array.getElem_mem hk,h2⟩
theorem wpAnyT_first {i:Nat}{oi:Oper}{v:Value}(hi:ops[i]?=some oi)(hsel:∀ (j:Nat)(o:Oper) cs b,ops[j]?=some o→o.op≠.select cs b)
  (hQ:∀ c a w,Q (.panic c) (a.put oi.dst v) w→Q (.panic c) a w)(hlate:lateB md ops n i=true) :
  ∀ (fuel:Nat)(listed:Array Bool)(a:Act)(w:World),
   (∀ j oj,ops[j]?=some oj→j≠i→listed.getD j true=false→(∀ e ∈ oj.after,Region.binds md e=true→e.on≠i)→oi.apart ops oj=true) →
   i ∈ Region.ready md ops listed→YieldsIf P ops S oi v a→S w →
   wpAnyT P md ops Q S n fuel (listed.setIfInBounds i true) (a.put oi.dst v) w→wpAnyT P md ops Q S n (fuel+1) listed a w:=by
 intro fuel;induction fuel with
 | zero =>
  intro listed a w _ hr hy hS H;refine⟨fun h=>(by rw[h]at hr;cases hr),fun j hj=>?_⟩
  by_cases hji:j=i
  ·subst hji;exact hy.wpOp hi hS ⟨fun _=>hS,H⟩
  ·have:=ready_mono hj hji
   rw[H.1]at this
   cases this
 | succ fuel ih =>
  intro listed a w hfree hr hy hS H;refine⟨fun h=>(by rw[h]at hr;cases hr),fun j hj=>?_⟩
  by_cases hji:j=i
  ·subst hji;exact hy.wpOp hi hS ⟨fun _=>hS,H⟩
  ·have h1:=H.2 j (ready_mono hj hji)
   obtain⟨hjun,oj,hoj,hall⟩:=mem_ready.1 hj
   have hnot:∀ e ∈ oj.after,Region.binds md e=true→e.on≠i:=fun e he hb heq=>by
    have h1:=hall e he hb;have h0:=(mem_ready.1 hr).1;rw[heq]at h1;rcases Nat.lt_or_ge i listed.size with h'|h'
    ·simp[h']at h0 h1;rw[h0]at h1;cases h1
    ·simp[Array.getElem?_eq_none h']at h1
   have hjn:j<n:=by
    rcases Nat.lt_or_ge j n with h'|h'
    ·exact h'
    ·obtain⟨e,he,hb,heq⟩:=lateB_spec hlate hoj h'
     exact absurd heq (hnot e he hb)
   have h2:=wpOp_putIf hoj (hfree j oj hoj hji hjun hnot) (fun cs b=>hsel i oi cs b hi) (fun cs b=>hsel j oj cs b hoj) hQ hy h1
   have hfree':∀ k ok,ops[k]?=some ok→k≠i→(listed.setIfInBounds j true).getD k true=false →
     (∀ e ∈ ok.after,Region.binds md e=true→e.on≠i)→oi.apart ops ok=true:=fun k ok hk hki hun hno=>by
    refine hfree k ok hk hki ?_ hno;by_cases hjk:j=k
    ·subst hjk;exact hjun
    ·rw[getD_set_ne true hjk]at hun;exact hun
   refine wpOp_mono (fun a' w' h3=>⟨h3.2.1,ih (listed.setIfInBounds j true) a' w' hfree' (ready_mono hr (Ne.symm hji)) h3.1 (h3.2.1 hjn) ?_⟩) h2
   rw[Array.setIfInBounds_comm _ _ hji];exact h3.2.2
theorem wpAnyT_take {i:Nat}{oi:Oper}{v:Value}{fuel:Nat}{listed:Array Bool}{a:Act}{w:World}(hi:ops[i]?=some oi)
  (hs:Region.noSelect ops=true)(hf:Region.free md ops listed i=true)(hr:(Region.ready md ops listed).contains i=true)(hl:lateB md ops n i=true)
  (hQ:∀ c a w,Q (.panic c) (a.put oi.dst v) w→Q (.panic c) a w)(hy:YieldsIf P ops S oi v a)(hS:S w)
  (h:wpAnyT P md ops Q S n fuel (listed.setIfInBounds i true) (a.put oi.dst v) w):wpAnyT P md ops Q S n (fuel+1) listed a w:=
 wpAnyT_first hi (Region.noSelect_spec hs) hQ hl fuel listed a w (Region.free_spec hi hf) (by simpa using hr) hy hS h
theorem wpAnyT_one {i:Nat}{fuel:Nat}{listed:Array Bool}{a:Act}{w:World}(hr:Region.ready md ops listed=[i])
  (h:wpOp P ops Q i (fun a' w'=>(i<n→S w')∧wpAnyT P md ops Q S n fuel (listed.setIfInBounds i true) a' w') a w):wpAnyT P md ops Q S n (fuel+1) listed a w:=
 ⟨fun h0=>(by rw[hr]at h0;cases h0),fun j hj=>by rw[hr,List.mem_singleton]at hj;rw[hj];exact h⟩
theorem wpAnyT_step {i:Nat}{o:Oper}{fuel:Nat}{listed:Array Bool}{a:Act}{w:World}(hr:Region.ready md ops listed=[i])(ho:ops[i]?=some o)
  (h:∀ K:Act→World→Prop,Go.Shut (∀ a' w',(i<n→S w')→wpAnyT P md ops Q S n fuel (listed.setIfInBounds i true) a' w'→K a' w')→if Region.wanted o (yielded ops a.tmps)=true then o.wp P a w K Q else K (a.put o.dst undef) w):wpAnyT P md ops Q S n (fuel+1) listed a w:=by
 refine wpAnyT_one hr ?_;have h1:=h (fun a' w'=>(i<n→S w')∧wpAnyT P md ops Q S n fuel (listed.setIfInBounds i true) a' w') fun a' w' h2 h3=>⟨h2,h3⟩
 unfold wpOp;simp only[ho];split
 ·rename_i hw;rw[if_pos hw]at h1;exact .inl h1
 ·rename_i hw;rw[if_neg hw]at h1;exact h1
theorem wpAnyT_done {listed:Array Bool}{a:Act}{w:World}(hr:Region.ready md ops listed=[])(h:Q .normal a w):wpAnyT P md ops Q S n 0 listed a w:=⟨hr,h⟩
theorem wp_region_late {id:Nat}{a:Act}{w:World}(S:World→Prop)(n:Nat)(hm:P.follows .mixedOrders=true)
  (h:wpAnyT P .any ops Q S n ops.size (Array.replicate ops.size false) a w.drew):(Code.region id ops true).wp P Q a w:=
 wp_region_any hm (wpAny_of_T _ _ _ _ h)
end
section
variable {P : Program} {ops : Array Oper} {Q : Exit → Act → World → Prop} {md : Region.Mode} {S : World → Prop} {n : Nat}
def takesB (md:Region.Mode)(ops:Array Oper)(n:Nat):List Nat→Array Bool→Bool
 | [],_=>true
 | i::is,l=>Region.free md ops l i&&(Region.ready md ops l).contains i&&lateB md ops n i&&takesB md ops n is (l.setIfInBounds i true)
def TkP (P:Program)(md:Region.Mode)(ops:Array Oper)(Q:Exit→Act→World→Prop)(S:World→Prop)(n:Nat):List Nat→Nat→Array Bool→Act→World→Prop
 | [],F,l,a,w=>wpAnyT P md ops Q S n F l a w
 | i::is,F,l,a,w=>∃ oi v,ops[i]?=some oi∧YieldsIf P ops S oi v a∧TkP P md ops Q S n is (F-1) (l.setIfInBounds i true) (a.put oi.dst v) w
theorem tkc {i:Nat}{is:List Nat}{F:Nat}{l:Array Bool}{a:Act}{w:World}{oi:Oper}{v:Value}(hi:ops[i]?=some oi)(hy:YieldsIf P ops S oi v a)(h:TkP P md ops Q S n is (F-1) (l.setIfInBounds i true) (a.put oi.dst v) w):TkP P md ops Q S n (i::is) F l a w:=⟨oi,v,hi,hy,h⟩
theorem tkn {F:Nat}{l:Array Bool}{a:Act}{w:World}(h:wpAnyT P md ops Q S n F l a w):TkP P md ops Q S n [] F l a w:=h
theorem wpAnyT_takes (hs:Region.noSelect ops=true)(hpan:∀ c d x a w,Q (.panic c) (a.put d x) w→Q (.panic c) a w) :
  ∀ (is:List Nat){F:Nat}{l:Array Bool}{a:Act}{w:World},takesB md ops n is l=true→is.length≤F→S w→TkP P md ops Q S n is F l a w→wpAnyT P md ops Q S n F l a w
 | [],_,_,_,_,_,_,_,h=>h
 | i::is,F,l,a,w,hB,hF,hS,h=>by
  obtain⟨oi,v,hi,hy,h⟩:=h;simp only[takesB,Bool.and_eq_true]at hB;obtain⟨⟨⟨h1,h2⟩,h3⟩,h4⟩:=hB;obtain⟨F',rfl⟩:∃ F',F=F'+1:=⟨F-1,by simp only[List.length_cons]at hF;omega⟩
  exact wpAnyT_take hi hs h1 h2 h3 (fun c a w h=>hpan c _ _ a w h) hy hS (wpAnyT_takes hs hpan is h4 (by simp only[List.length_cons]at hF;omega) hS h)
end
def codeReg (n:Nat):Code→Option Code
 | .region k ops d=>if k=n then some (.region k ops d) else none
 | .seq a b=>match codeReg n a with
  | some c=>some c
  | none=>codeReg n b
 | .cond _ a b=>match codeReg n a with
  | some c=>some c
  | none=>codeReg n b
 | .block _ a=>codeReg n a
 | .loop a=>codeReg n a
 | .scope a=>codeReg n a
 | _=>none
end Go.Proofs.YteehgedabdchcaaGreat
