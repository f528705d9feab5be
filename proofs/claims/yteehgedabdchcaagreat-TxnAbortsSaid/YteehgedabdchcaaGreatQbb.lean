import Derived.Test.YteehgedabdchcaaGreatQap
import Derived.Test.YteehgedabdchcaaGreatQbc
import Derived.ChangeSame
import Derived.Conc.MuData
import Derived.Conc.MuLib
import Derived.Conc.MuLone
import Derived.Deep.Fields
import Derived.Deep.Slices
import Derived.KernelRfl
import Derived.Lib.AtoiAll
import Derived.Lib.ItoaNum
import Derived.Lib.Split
import Derived.Laws.IdiomCopy
import Derived.Laws.MakeOwn
set_option linter.all false
set_option maxRecDepth 1000000
set_option maxHeartbeats 16000000
namespace Go.Proofs.YteehgedabdchcaaGreat
open Hp
section
variable {S : Stt} {L : Cx} {A : As} {i p k m : Nat}
theorem Sim.reX (hs:Sim S L A){X:List Nat}(hx:∀ p ∈ X,S.H.C p):Sim S ⟨L.l,X,X.map S.H.sr⟩ A:=
 ⟨hs.ok,hs.gc,hs.ser,hs.now,hs.most,hs.next,hs.ho,hs.ver,hs.tx,hs.qu,hs.pl,hx,rfl,hs.sz⟩
theorem fresh_none (hs:Sim S L A):A.heap (A.ser+1)=none:=hs.gc.cor.an _ (by have:=hs.ser;omega)
theorem Ed.x {S S':Stt}(h:Ed i S S'):∃ x:Tx,S'.t i=x.ended:=h.lv.elim (fun e=>⟨_,e⟩) id
theorem tx_ended (hi:i<S.txs.length):(S.abort i).t i=(S.t i).ended:=by
 unfold Stt.abort;rw[Stt.tx_t (by unfold Stt.untake;split<;>exact hi)]
end
section
variable {l : List Nat} {A : As} {m : Nat}
theorem Few.at' {x:Tx}{k m:Nat}(h:Few x k m)(g:Nat→Nat):Few (x.at' g) k m:=
 ⟨by have:=h.r;simpa [Tx.at',Lg.at'] using this,by have:=h.kp;simpa [Tx.at',Lg.at'] using this,by have:=h.h;simpa [Tx.at',Lg.at',at1] using this,by have:=h.u;simpa [Tx.at',Lg.at'] using this,h.mr,h.mu⟩
theorem at_t (S:Stt)(g:Nat→Nat){i:Nat}(hi:i<S.txs.length):(S.at' g).t i=(S.t i).at' g:=by
 unfold Stt.t;show (S.txs.map _).getD _ _=_;grind
end
section
variable {H : Hp} {L : List Nat} {A : Ag}
theorem lk_mem' (hk:H.ok){x:Nat×Ob}(hx:x ∈ H.cur):lk H.cur x.1=some x.2:=by
 have h1:(lk H.cur x.1).isSome=true:=lk_some.2 (List.mem_map.2 ⟨x,hx,rfl⟩);obtain⟨o,ho⟩:=Option.isSome_iff_exists.1 h1;rw[ho,lk_uniq hk.cl hk.ck (lk_mem ho) hx]
theorem pw_inj:∀ {l:List (Nat×Ob×Option Nat)}(_:(l.map (·.1)).Pairwise (·<·)){x y:Nat×Ob×Option Nat}(_:x ∈ l)(_:y ∈ l)(_:x.1=y.1),x=y
 | [],_,_,_,hx,_,_=>by cases hx
 | z::l,h,x,y,hx,hy,e=>by
  rw[List.map_cons,List.pairwise_cons]at h;rcases List.mem_cons.1 hx with hx|hx
  ·rcases List.mem_cons.1 hy with hy|hy
   ·rw[hx,hy]
   ·have:=h.1 y.1 (List.mem_map.2 ⟨y,hy,rfl⟩);rw[hx]at e;omega
  ·rcases List.mem_cons.1 hy with hy|hy
   ·have:=h.1 x.1 (List.mem_map.2 ⟨x,hx,rfl⟩);rw[hy]at e;omega
   ·exact pw_inj h.2 hx hy e
theorem lko_mem' (hk:H.ok){x:Nat×Ob×Option Nat}(hx:x ∈ H.old):lko H.old x.1=some x.2:=by
 have h1:(lko H.old x.1).isSome=true:=lko_some.2 (List.mem_map.2 ⟨x,hx,rfl⟩);obtain⟨o,ho⟩:=Option.isSome_iff_exists.1 h1;have:=pw_inj (old_sorted hk) (lko_mem ho) hx rfl;grind
def unm (l:List (Nat×Ob×Option Nat)):List (Nat×Ob×Option Nat):=l.filter fun x=>x.2.2.isNone
theorem Gc.count (h:Gc H L A):H.cur.length+(unm H.old).length≤H.serial:=by
 have hk:=h.wf.ok;have hc:∀ x ∈ H.cur,H.obj x.1=some x.2:=fun x hx=>obF_c (lk_mem' hk hx)
 have ho:∀ x ∈ unm H.old,H.obj x.1=some x.2.1:=fun x hx=>by
  obtain⟨h1,h2⟩:=List.mem_filter.1 hx;have h3:=lko_mem' hk h1;have h4:x.2=(x.2.1,none):=by
   obtain⟨a,b,c⟩:=x
   cases c with
   | none=>rfl
   | some q=>cases h2
  rw[h4]at h3;exact obF_o ((h.cor.dj _).resolve_right (by rw[h3];simp)) h3
 have hn:(H.cur.map (·.2.serial)++(unm H.old).map (·.2.1.serial)).Nodup:=by
  refine List.nodup_append.2 ⟨?_,?_,?_⟩
  ·have h1:=laid_sorted _ _ _ hk.cl hk.ck
   rw[List.pairwise_map]at h1;unfold List.Nodup;rw[List.pairwise_map];refine h1.imp_of_mem fun {a b} ha hb hlt e=>?_
   have:=h.cor.inj _ _ _ _ (hc a ha) (hc b hb) e;omega
  ·have h1:=(old_sorted hk)
   rw[List.pairwise_map]at h1;unfold List.Nodup;rw[List.pairwise_map];refine (h1.filter _).imp_of_mem fun {a b} ha hb hlt e=>?_
   have:=h.cor.inj _ _ _ _ (ho a ha) (ho b hb) e;omega
  ·intro a ha b hb e
   obtain⟨x,hx,rfl⟩:=List.mem_map.1 ha;obtain⟨y,hy,rfl⟩:=List.mem_map.1 hb;have h1:=h.cor.inj _ _ _ _ (hc x hx) (ho y hy) e;have h2:=lk_mem' hk hx;have h3:=lko_mem' hk (List.mem_filter.1 hy).1;rw[h1]at h2;rcases h.cor.dj y.1 with h4|h4
   ·rw[h4]at h2;cases h2
   ·rw[h4]at h3;cases h3
 have:=nodup_le _ ((List.range H.serial).map (·+1)) hn fun x hx=>by
  have hb:1≤x∧x≤H.serial:=by
   rcases List.mem_append.1 hx with hx|hx
   ·obtain⟨y,hy,rfl⟩:=List.mem_map.1 hx;exact h.cor.sr _ _ (hc y hy)
   ·obtain⟨y,hy,rfl⟩:=List.mem_map.1 hx;exact h.cor.sr _ _ (ho y hy)
  exact List.mem_map.2 ⟨x-1,List.mem_range.2 (by omega),by omega⟩
 simpa using this
theorem laid_sum:∀ (l:List (Nat×Ob))(b t:Nat),laid b l t→(∀ x ∈ l,rnd x.2.size≤12)→t≤b+12*l.length
 | [],b,t,h,_=>by rw[laid]at h;simp;omega
 | (p,o)::l,b,t,h,hr=>by
  have h1:=laid_sum l _ _ h.2 fun x hx=>hr x (.tail _ hx)
  have h2:=hr _ (.head _);grind
theorem owes_sum:∀ (l:List (Nat×Ob×Option Nat)),(∀ x ∈ unm l,rnd x.2.1.size≤12)→owes l≤12*(unm l).length
 | [],_=>by simp[owes]
 | (p,o,none)::l,hr=>by
  have e:unm ((p,o,none)::l)=(p,o,none)::unm l:=rfl;rw[e]at hr ⊢;have h1:=owes_sum l fun x hx=>hr x (.tail _ hx)
  have h2:=hr _ (.head _);simp only[owes,List.length_cons]at *;omega
 | (p,o,some q)::l,hr=>by
  have e:unm ((p,o,some q)::l)=unm l:=rfl;exact owes_sum l hr
theorem rnd12 {n:Nat}(h:n≤12):rnd n≤12:=by unfold rnd;(repeat' split)<;>omega
theorem Gc.room (h:Gc H L A)(hq:∀ s a,A s=some a→a.shp.p+a.shp.d≤9){s:Shp}(hs:s.p+s.d≤9){k:Nat}(hk:H.serial≤k)(hsz:12*(k+1)≤H.size)(hb:k<1099511627776):H.roomy s=true:=by
 have h0:=h.wf.ok;have hr:∀ p b,H.obj p=some b→rnd b.size≤12:=fun p b hp=>by
  obtain⟨a,h1,h2⟩:=h.cor.hp p b hp;have:=hq _ _ h1;rw[h2.shp]at this;exact rnd12 (by unfold Ob.size;omega)
 have h1:=laid_sum _ _ _ h0.cl fun x hx=>hr x.1 x.2 (obF_c (lk_mem' h0 hx))
 have h2:=owes_sum H.old fun x hx=>by
  obtain⟨h1,h2⟩:=List.mem_filter.1 hx;have h3:=lko_mem' h0 h1;have h4:x.2=(x.2.1,none):=by
   obtain⟨a,b,c⟩:=x
   cases c with
   | none=>rfl
   | some q=>cases h2
  rw[h4]at h3;exact hr x.1 x.2.1 (obF_o ((h.cor.dj _).resolve_right (by rw[h3];simp)) h3)
 have h3:=h.count;have h4:=h0.owe;have h5:=rnd12 (n:=3+s.p+s.d) (by omega)
 unfold Hp.roomy Hp.left;grind
end
structure Gr (Q:Shp→Prop)(n:Nat)(A A':As):Prop where
 s1:A.ser≤A'.ser
 s2:A'.ser≤A.ser+n
 sh:∀ z a',A'.heap z=some a'→Q a'.shp∨∃ a,A.heap z=some a∧a'.shp=a.shp
 sz:A'.sz=A.sz
section
variable {Q : Shp → Prop} {A A' : As} {i : Nat}
theorem Gr.refl (Q:Shp→Prop)(n:Nat)(A:As):Gr Q n A A:=⟨Nat.le_refl _,Nat.le_add_right _ _,fun _ a h=>.inr ⟨a,h,rfl⟩,rfl⟩
theorem Gr.trans {n k:Nat}{A'':As}(a:Gr Q n A A')(b:Gr Q k A' A''):Gr Q (n+k) A A'':=by
 refine⟨Nat.le_trans a.s1 b.s1,by have:=a.s2;have:=b.s2;omega,fun z x h=>?_,b.sz.trans a.sz⟩
 rcases b.sh z x h with h|⟨y,h1,h2⟩
 ·exact .inl h
 ·rcases a.sh z y h1 with h|⟨w,h3,h4⟩
  ·grind
  ·grind
theorem Gr.same {n:Nat}(h1:A'.heap=A.heap)(h2:A'.ser=A.ser)(h3:A'.sz=A.sz):Gr Q n A A':=⟨by omega,by omega,fun z a h=>.inr ⟨a,by rw[←h1];exact h,rfl⟩,h3⟩
def HS (H H':Ag):Prop:=∀ z a',H' z=some a'→∃ a,H z=some a∧a'.shp=a.shp
theorem HS.refl (H:Ag):HS H H:=fun _ a h=>⟨a,h,rfl⟩
theorem HS.trans {H H' H'':Ag}(a:HS H H')(b:HS H' H''):HS H H'':=fun z x h=>by
 obtain⟨y,h1,h2⟩:=b z x h;obtain⟨w,h3,h4⟩:=a z y h1;grind
theorem HS.upd (H:Ag)(s:Nat){f:AO→AO}(hf:∀ a,(f a).shp=a.shp):HS H (H.upd s f):=by
 intro z a' h;unfold Ag.upd at h;split at h
 ·rename_i e;subst e
  cases hz:H z with
  | none=>rw[hz]at h;cases h
  | some a=>rw[hz]at h;injection h with h;exact⟨a,rfl,by rw[←h];exact hf a⟩
 ·grind
theorem HS.comL:∀ (zs:List (Nat×Nat))(H:Ag)(v:Nat),HS H (H.comL zs v)
 | [],H,_=>HS.refl H
 | z::zs,H,v=>(HS.upd H z.1 (f:=fun a=>a.second (2*v)) fun _=>rfl).trans (HS.comL zs _ v)
theorem HS.relL:∀ (zs:List (Nat×Nat))(H:Ag),HS H (H.relL zs)
 | [],H=>HS.refl H
 | z::zs,H=>(HS.upd H z.1 (f:=fun a=>if z.2=0 then (a.second 0).free true else a.second (2*z.2)) fun _=>by split<;>rfl).trans (HS.relL zs _)
theorem HS.undo1 (H:Ag)(u:Un):HS H (H.undo1 u):=by
 unfold Ag.undo1;split
 ·exact HS.upd H u.pos (f:=fun a=>a.ptr u.i u.old.toNat) fun _=>rfl
 ·split
  ·exact HS.upd H u.pos (f:=fun a=>a.num u.i u.old) fun _=>rfl
  ·split
   ·exact HS.upd H u.pos (f:=fun a=>a.free (decide (u.old≠0))) fun _=>rfl
   ·exact HS.refl H
theorem HS.undoL (H:Ag):∀ us:List Un,HS H (H.undoL us)
 | []=>HS.refl H
 | u::us=>(HS.undoL H us).trans (HS.undo1 _ u)
theorem Gr.hs {n:Nat}(h1:HS A.heap A'.heap)(h2:A'.ser=A.ser)(h3:A'.sz=A.sz):Gr Q n A A':=⟨by omega,by omega,fun z a h=>.inr (h1 z a h),h3⟩
theorem Gr.look (n:Nat)(A:As)(i s:Nat):Gr Q n A (A.lookR i s).1:=Gr.same (lookA_heap A i s) (by unfold As.lookR;split;rfl;split;rfl;split<;>rfl) (by unfold As.lookR;split;rfl;split;rfl;split<;>rfl)
theorem Gr.hold (n:Nat)(A:As)(i s:Nat):Gr Q n A (A.hold i s):=by
 unfold As.hold;split
 ·exact Gr.refl Q n A
 ·exact Gr.hs (HS.upd A.heap s (f:=fun a=>a.second (2*i+1)) fun _=>rfl) rfl rfl
theorem Gr.chg (A:As)(i s:Nat)(u:Un){f:AO→AO}(hf:∀ a,(f a).shp=a.shp):Gr Q 1 A (A.chg i s u f).A:=by
 have h1:Gr Q 1 (A.hold i s) (A.chg i s u f).A:=Gr.hs (HS.upd (A.hold i s).heap s hf) rfl rfl;exact (Gr.hold 0 A i s).trans h1
theorem Gr.lk {R:ARes}{s:Nat}(h:Gr Q 1 (A.lookR i s).1 R.A):Gr Q 1 A R.A:=(Gr.look 0 A i s).trans h
theorem Gr.abort (A:As)(i:Nat):Gr Q 0 A (A.abort i):=by
 refine Gr.hs ?_ ?_ ?_
 ·have e:(A.abort i).heap=(A.heap.undoL (A.t i).undos).relL (A.t i).holds:=by unfold As.abort As.untake;split<;>rfl
  rw[e];exact (HS.undoL _ _).trans (HS.relL _ _)
 ·unfold As.abort As.untake;split<;>rfl
 ·unfold As.abort As.untake;split<;>rfl
theorem Gr.deed {R:ARes}(h:Gr Q 1 A R.A):Gr Q 1 A (A.deedR i R).A:=by
 unfold As.deedR ARes.fin;split
 ·split
  ·exact h.trans (Gr.abort R.A i)
  ·grind
 ·exact Gr.refl Q 1 A
theorem Gr.lay (A:As)(i:Nat){s:Shp}(hs:Q s)(ps:List Nat):Gr Q 1 A (A.lay i s ps):=by
 refine⟨Nat.le_succ _,Nat.le_refl _,fun z a h=>?_,rfl⟩
 change (if z=A.ser+1 then some _ else A.heap z)=some a at h
 grind
theorem Gr.commitR (A:As)(i:Nat):Gr Q 1 A (A.commitR i).A:=by
 unfold As.commitR;split
 ·exact Gr.same rfl rfl rfl
 ·split
  ·exact Gr.refl Q 1 A
  ·refine Gr.hs ?_ ?_ ?_
   ·show HS A.heap (A.tick i).heap
    unfold As.tick;split<;>exact HS.comL _ _ _
   ·show (A.tick i).ser=_
    unfold As.tick;split<;>rfl
   ·show (A.tick i).sz=_
    unfold As.tick;split<;>rfl
end
section
def As.fresh (n k most:Nat):As:=⟨n,fun _=>none,0,0,most,List.replicate k ⟨false,0,0,[],[],[],[]⟩,[],0,-1,0⟩
end
end Go.Proofs.YteehgedabdchcaaGreat
namespace Go.Proofs.YteehgedabdchcaaGreat
open Go.RowKit Hp
attribute [local go_sem ↓] Go.wp_at_zero Go.wp_at_succ
theorem hright_gen (s:Shp)(w:World):Calls Tryz.prog 106 #[shpV s] w fun e w'=>∃ b,e=.returned (.bool b)∧(b=true→s.ok)∧Below w.heap.size w w':=by
 by_cases h:s.ok
 ·refine (hright_any s h w).mono ?_
  rintro e w' ⟨rfl,hb⟩
  exact⟨true,rfl,fun _=>h,hb⟩
 ·obtain⟨p,d,wk,fn⟩:=s
  have hn:¬(p≤8∧d≤8∧(wk=true→p=1∧d=0∧fn=false)):=h;clear h;by_cases h1:p≤8
  ·by_cases h2:d≤8
   ·cases wk
    ·exact absurd ⟨h1,h2,by simp⟩ hn
    ·by_cases h3:p=1
     ·by_cases h4:d=0
      ·subst h3 h4
       cases fn
       ·exact absurd ⟨h1,h2,by simp⟩ hn
       ·clear hn
        go_enter Tryz.func106,Tryz.ntmps106;go_wp2_with fail;go_ret;exact⟨false,rfl,by simp,balloc (Below.refl _ _) _⟩
      ·subst h3
       have h5:¬(d:Int)=0:=by omega
       clear hn;go_enter Tryz.func106,Tryz.ntmps106;go_wp2_with fail;go_ret;exact⟨false,rfl,by simp,balloc (Below.refl _ _) _⟩
     ·have h5:¬(p:Int)=1:=by omega
      clear hn;go_enter Tryz.func106,Tryz.ntmps106;go_wp2_with fail;go_ret;exact⟨false,rfl,by simp,balloc (Below.refl _ _) _⟩
   ·have h5:(d:Int) > 8:=by omega
    clear hn;go_enter Tryz.func106,Tryz.ntmps106;go_wp2_with fail;go_ret;exact⟨false,rfl,by simp,balloc (Below.refl _ _) _⟩
  ·have h5:(p:Int) > 8:=by omega
   clear hn;go_enter Tryz.func106,Tryz.ntmps106;go_wp2_with fail;go_ret;exact⟨false,rfl,by simp,balloc (Below.refl _ _) _⟩
theorem hhead_gen (s:Shp)(fr:Bool)(w:World):Calls Tryz.prog 239 #[shpV s,.bool fr] w fun e w'=>∃ (n:Nat)(b:Bool),e=.returned (.tuple #[.int .u64 n,.bool b])∧(b=true→n%2=1)∧Below w.heap.size w w':=by
 by_cases h:s.ok
 ·refine (hhead_any s h fr w).mono ?_
  rintro e w'⟨rfl,hb⟩
  exact⟨head s fr,true,rfl,fun _=>head_odd _ _,hb⟩
 ·have HR:=Lib.hid (hright_gen s)
  obtain⟨p,d,wk,fn⟩:=s;go_enter Tryz.func239,Tryz.ntmps239;go_wp2_with fail;refine (HR.out _).mono ?_
  rintro e w1⟨b,rfl,hb,hb1⟩
  cases b
  ·clear hb
   go_wp2_with fail;go_ret2;exact⟨0,false,rfl,by simp,btrans (balloc (Below.refl _ _) _) hb1⟩
  ·exact absurd (hb rfl) h
theorem hshape_gone (q:Nat)(hq:q≤131072)(w:World):Calls Tryz.prog 198 #[.int .u64 ((4*q+2:Nat):Int)] w fun e w'=>e=.returned (.tuple #[shpV ⟨0,0,false,false⟩,.bool false,.bool false])∧Below w.heap.size w w':=by
 obtain⟨v,hv⟩:∃ v,v=4*q+2:=⟨_,rfl⟩;rw[←hv];have hvl:v<18446744073709551616:=by omega
 have he:v%2=0:=by omega
 have hbit:∀ s:Int,(v/2 ^ s.toNat%2=if decide (v/2 ^ s.toNat%2=1) then 1 else 0):=fun s=>by
  have:=Nat.mod_two_eq_zero_or_one (v/2 ^ s.toNat);rcases this with h|h<;>rw[h]<;>rfl
 have hp:=count_any v hvl 1 (by simp)
 have hd:=count_any v hvl 5 (by simp)
 have hwk:=has_any v hvl 9 (by simp) _ (hbit 9)
 have hfn:=has_any v hvl 10 (by simp) _ (hbit 10)
 have hfr:=has_any v hvl 11 (by simp) _ (hbit 11)
 generalize v/2 ^ (1:Int).toNat%16=p at *;generalize v/2 ^ (5:Int).toNat%16=d at *;generalize decide (v/2 ^ (9:Int).toNat%2=1)=wk at *;generalize decide (v/2 ^ (10:Int).toNat%2=1)=fn at *;generalize decide (v/2 ^ (11:Int).toNat%2=1)=fr at *;have HH:=Lib.hid (hhead_gen ⟨p,d,wk,fn⟩ fr);have HP:=Lib.hid hp;have HD:=Lib.hid hd;have HW:=Lib.hid hwk;have HN:=Lib.hid hfn;have HF:=Lib.hid hfr;clear hp hd hwk hfn hfr hbit hv hq;go_enter Tryz.func198,Tryz.ntmps198;go_wp2_with fail;refine (HP.out _).mono ?_
 rintro e w1 ⟨rfl,hb1⟩
 have jR:=(Blk.new w (#[_,_,_,_]) 93).below hb1 (by simp)
 have hw1:=btrans (balloc (Below.refl _ _) _) hb1;clear hb1;go_wp2_with fail;refine (HD.out _).mono ?_
 rintro e w2 ⟨rfl,hb2⟩
 have jR2:=jR.below hb2 jR.lt;have hw2:=btrans hw1 hb2;clear hb2 jR hw1;go_wp2_with fail;refine (HW.out _).mono ?_
 rintro e w3 ⟨rfl,hb3⟩
 have jR3:=jR2.below hb3 jR2.lt;have hw3:=btrans hw2 hb3;clear hb3 jR2 hw2;go_wp2_with fail;refine (HN.out _).mono ?_
 rintro e w4 ⟨rfl,hb4⟩
 have jR4:=jR3.below hb4 jR3.lt;have hw4:=btrans hw3 hb4;have c4:=jR4.cell;have s4:=jR4.lt;have z4:=jR4.free;clear hb4 jR3 hw3;go_wp2_with fail;refine (HF.out _).mono ?_
 rintro e w5 ⟨rfl,hb5⟩
 have jR5:Blk w5 w.heap.size #[.int .i64 p,.int .i64 d,.bool wk,.bool fn] 93:=((((jR4.set 0 _).set 1 _).set 2 _).set 3 _).below hb5 (by simp;omega)
 have hw5:Below w.heap.size w w5:=btrans (bset (bset (bset (bset hw4 (Nat.le_refl _) _) (Nat.le_refl _) _) (Nat.le_refl _) _) (Nat.le_refl _) _) hb5;have c5:=jR5.cell;have s5:=jR5.lt;clear hb5 jR4 hw4 c4 s4 z4;go_wp2_with fail;refine (HH.out _).mono ?_
 rintro e w6 ⟨n,b,rfl,hnb,hb6⟩
 have jR6:=jR5.below hb6 jR5.lt;have hw6:=btrans hw5 hb6;have c6:=jR6.cell;have s6:=jR6.lt;have z6:=jR6.free;clear hb6 jR5 hw5 c5 s5
 cases b
 ·clear hnb
  go_wp2_with fail;refine bodyPost_ret (v:=.tuple #[shpV ⟨0,0,false,false⟩,.bool false,.bool false]) (by simp[results,Tryz.results198,go_sem,c6]) rfl ⟨rfl,?_⟩
  repeat (first|exact hw6|refine bset ?_ (Nat.le_refl _) _)
 ·have hne:((n:Int) != (v:Int))=true:=by rw[bne_iff_ne];have:=hnb rfl;omega
  have hne2:¬(n:Int)=(v:Int):=by have:=hnb rfl;omega
  clear hnb;go_wp2_with fail;refine bodyPost_ret (v:=.tuple #[shpV ⟨0,0,false,false⟩,.bool false,.bool false]) (by simp[results,Tryz.results198,go_sem,c6]) rfl ⟨rfl,?_⟩
  repeat (first|exact hw6|refine bset ?_ (Nat.le_refl _) _)
variable {w : World} {a wd L : Nat} {f : Nat → Nat} {p : Nat}
theorem oshape_gone (h:Wds w a wd L f)(hp:p<L)(q:Nat)(hq:q≤131072)(hf:f p=4*q+2) :
  Calls Tryz.prog 130 #[.pointer (some ⟨a,0,none⟩),.int .i64 p] w fun e w'=>∃ er:Int,er≠0∧e=.returned (.tuple #[shpV ⟨0,0,false,false⟩,.bool false,.int .i64 er])∧Below w.heap.size w w':=by
 have HS:=Lib.hid (hshape_gone q hq);have HW:=Lib.hid h;have H0:=Lib.hid hf;have hL9:=h.le;generalize 4*q+2=v at *;clear h hf;go_enter Tryz.func130,Tryz.ntmps130;go_wp2_with fail;refine (ar_load_v (HW.out.below (balloc (bsame w) _)) p p v rfl hp H0.out).mono ?_
 rintro e w1 ⟨rfl,rfl⟩
 go_wp2_with fail;refine (HS.out _).mono ?_
 rintro e w2 ⟨rfl,hb2⟩
 have jR:Blk w2 w.heap.size #[.int .i64 0,.int .i64 0,.bool false,.bool false] 93:=(Blk.new w _ _).below hb2 (by simp)
 have hw2:=btrans (balloc (bsame w) _) hb2;have cR:=jR.cell;have zR:=jR.free;have sR:=jR.lt;clear hb2;go_upto_region 6 with fail;obtain⟨w3,e3⟩:∃ w3,w3=(((w2.setCell ⟨w.heap.size,0,none⟩ (.int .i64 0)).setCell ⟨w.heap.size,1,none⟩ (.int .i64 0)).setCell ⟨w.heap.size,2,none⟩ (.bool false)).setCell ⟨w.heap.size,3,none⟩ (.bool false):=⟨_,rfl⟩;have j3:Blk w3 w.heap.size #[.int .i64 0,.int .i64 0,.bool false,.bool false] 93:=by rw[e3];exact (((jR.set 0 _).set 1 _).set 2 _).set 3 _
 have h3:Below w.heap.size w w3:=by
  rw[e3];exact bset (bset (bset (bset hw2 (Nat.le_refl _) _) (Nat.le_refl _) _) (Nat.le_refl _) _) (Nat.le_refl _) _
 rw[←e3];clear e3 hw2 cR zR sR jR;have c3:=j3.cell;have z3:=j3.free;have s3:=j3.lt;go_wp2_with fail;refine bodyPost_ret (v:=.tuple #[shpV ⟨0,0,false,false⟩,.bool false,.int .i64 70]) (by simp[results,Tryz.results130,go_sem,c3]) rfl ⟨70,by decide,rfl,?_⟩
 repeat (first|exact h3|refine bset ?_ (Nat.le_refl _) _)
theorem mat_zero (h:Wds w a wd L f)(hp:p<L)(hf:f p=0) :
  Calls Tryz.prog 181 #[.pointer (some ⟨a,0,none⟩),.int .i64 p] w fun e w'=>e=.returned (.tuple #[.int .i64 0,.bool false])∧w=w':=by
 have HG:=Lib.hid (fun w=>gone_no 0 (by omega) w)
 have HW:∀ w,Calls Tryz.prog 237 #[.int .u64 0] w fun e w'=>e=.returned (.tuple #[.int .i64 0,.bool false])∧w=w':=fun w=>by
  clear hf h;go_enter Tryz.func237,Tryz.ntmps237;go_wp2_with fail;refine (HG.out _).mono ?_
  rintro e w1 ⟨rfl,rfl⟩
  go_wp2_with fail;go_ret2;exact⟨rfl,rfl⟩
 have HW:=Lib.hid HW;have HL:=Lib.hid (ar_load_v h p p _ rfl hp hf);clear h hf HG;go_enter Tryz.func181,Tryz.ntmps181;go_wp2_with fail;refine HL.out.mono ?_
 rintro e w1 ⟨rfl,rfl⟩
 go_wp2_with fail;refine (HW.out _).mono ?_
 rintro e w1 ⟨rfl,rfl⟩
 go_wp2_with fail;go_ret2;exact⟨rfl,rfl⟩
def Hp.all (H:Hp):List (Nat×Ob):=H.cur++H.olds
def Hp.nw (H:Hp)(q:Nat):Nat:=nowF (lko H.old) q
def Hp.go (H:Hp)(q:Nat):Bool:=match lko H.old q with|some (_,some _)=>true|_=>false
def Hp.fixO (H:Hp)(x:Ob):Ob:={ x with ptrs:=x.ptrs.map H.nw }
def Hp.vw (H:Hp):Gf:=fun p=>(H.obj p).map H.fixO
def Hp.cl (H:Hp):Prop:=∀ p x,H.obj p=some x→∀ q ∈ x.ptrs,H.V q
section
variable {H : Hp} {p : Nat} {x : Ob}
theorem obj_cases (h:H.obj p=some x):(p,x) ∈ H.cur∨(p,x,none) ∈ H.old:=by
 unfold Hp.obj obF at h;split at h
 ·rename_i b hb;injection h with h;subst h;exact .inl (lk_mem hb)
 ·split at h
  ·rename_i b hb;injection h with h;subst h;exact .inr (lko_mem hb)
  ·cases h
theorem obj_all (h:H.obj p=some x):(p,x) ∈ H.all:=by
 rcases obj_cases h with h|h
 ·exact List.mem_append_left _ h
 ·exact List.mem_append_right _ (List.mem_map.2 ⟨_,h,rfl⟩)
theorem all_ok (hk:H.ok){y:Nat×Ob}(hy:y ∈ H.all):y.2.ok∧1≤y.1∧y.1+y.2.size≤2*H.size+1:=by
 have hb:=H.base_bd H.use;have hb2:=H.base_bd !H.use;rcases List.mem_append.1 hy with h|h
 ·have h1:=laid_mem _ _ _ hk.cl _ h
  have h2:=rnd_ge _ (Ob.size_bd (hk.ck _ h)).2;have h3:=hk.room;have:H.base H.use≤1+H.size:=by unfold Hp.base;split<;>omega
  exact⟨hk.ck _ h,by omega,by omega⟩
 ·have h1:=laid_mem _ _ _ hk.ol _ h
  have h2:=rnd_ge _ (Ob.size_bd (hk.ok _ h)).2;have h3:=hk.ot;have:H.base (!H.use)≤1+H.size:=by unfold Hp.base;split<;>omega
  exact⟨hk.ok _ h,by omega,by omega⟩
theorem all_apart (hk:H.ok){y z:Nat×Ob}(hy:y ∈ H.all)(hz:z ∈ H.all)(hne:y.1≠z.1):y.1+y.2.size≤z.1∨z.1+z.2.size≤y.1:=by
 have r1:=rnd_ge _ (Ob.size_bd (all_ok hk hy).1).2;have r2:=rnd_ge _ (Ob.size_bd (all_ok hk hz).1).2;rcases List.mem_append.1 hy with h1|h1<;>rcases List.mem_append.1 hz with h2|h2
 ·have:=laid_apart _ _ _ hk.cl hk.ck _ h1 _ h2 hne;omega
 ·obtain⟨u,hu,rfl⟩:=List.mem_map.1 h2
  exact Hp.apart hk h1 hu
 ·obtain⟨u,hu,rfl⟩:=List.mem_map.1 h1
  exact (Hp.apart hk h2 hu).symm
 ·have:=laid_apart _ _ _ hk.ol hk.ok _ h1 _ h2 hne;omega
theorem V_all {q:Nat}:H.V q↔q=0∨∃ y,(q,y) ∈ H.all:=by
 unfold Hp.V VF;constructor
 ·rintro (h|h|h)
  ·exact .inl h
  ·obtain⟨y,hy⟩:=Option.ne_none_iff_exists'.1 h
   exact .inr ⟨y,List.mem_append_left _ (lk_mem hy)⟩
  ·obtain⟨y,hy⟩:=Option.ne_none_iff_exists'.1 h
   exact .inr ⟨y.1,List.mem_append_right _ (List.mem_map.2 ⟨_,lko_mem (show lko H.old q=some (y.1,y.2) from hy),rfl⟩)⟩
 ·rintro (h|⟨y,h⟩)
  ·exact .inl h
  ·rcases List.mem_append.1 h with h|h
   ·exact .inr (.inl (by have:=lk_some.2 (List.mem_map.2 ⟨_,h,rfl⟩);intro e;rw[e]at this;simp at this))
   ·obtain⟨u,hu,e⟩:=List.mem_map.1 h
    injection e with e1 e2;refine .inr (.inr ?_);have:=lko_some.2 (List.mem_map.2 ⟨_,hu,e1⟩);intro e;rw[e]at this;simp at this
theorem all_dj (hk:H.ok){y:Ob}{g:Option Nat}(h1:lk H.cur p=some x)(h2:lko H.old p=some (y,g)):False:=by
 have:=Hp.apart hk (lk_mem h1) (lko_mem h2);have k:=Ob.size_bd (hk.ck _ (lk_mem h1));have k2:=Ob.size_bd (hk.ok (p,y) (List.mem_map.2 ⟨_,lko_mem h2,rfl⟩));simp only at this k k2;omega
theorem nw_c (hk:H.ok)(h:lk H.cur p=some x):H.nw p=p∧H.go p=false:=by
 have:lko H.old p=none:=by
  cases e:lko H.old p with
  | none=>rfl
  | some y=>exact (all_dj hk h (show lko H.old p=some (y.1,y.2) from e)).elim
 unfold Hp.nw nowF Hp.go;rw[this];exact⟨rfl,rfl⟩
theorem nw_o (h:lko H.old p=some (x,none)):H.nw p=p∧H.go p=false:=by
 unfold Hp.nw nowF Hp.go;rw[h];exact⟨rfl,rfl⟩
theorem nw_g {q:Nat}(h:lko H.old p=some (x,some q)):H.nw p=q∧H.go p=true:=by
 unfold Hp.nw nowF Hp.go;rw[h];exact⟨rfl,rfl⟩
theorem nw_0 (hk:H.ok):H.nw 0=0∧H.go 0=false:=by
 have:lko H.old 0=none:=by
  cases e:lko H.old 0 with
  | none=>rfl
  | some y =>
   have:=(all_ok hk (List.mem_append_right H.cur (List.mem_map.2 ⟨_,lko_mem (show lko H.old 0=some (y.1,y.2) from e),rfl⟩))).2.1;simp only at this;omega
 unfold Hp.nw nowF Hp.go;rw[this];exact⟨rfl,rfl⟩
theorem nw_not (h:H.go p=false):H.nw p=p:=by
 unfold Hp.go at h;unfold Hp.nw nowF;split
 ·rename_i e;rw[e]at h;cases h
 ·rfl
theorem V_cases (hk:H.ok){q:Nat}(h:H.V q):q=0∨(∃ y,H.obj q=some y∧H.nw q=q∧H.go q=false)∨∃ y q',(q,y,some q') ∈ H.old∧H.nw q=q'∧H.go q=true:=by
 rcases h with h|h|h
 ·exact .inl h
 ·obtain⟨y,hy⟩:=Option.ne_none_iff_exists'.1 h
  exact .inr (.inl ⟨y,obF_c hy,nw_c hk hy⟩)
 ·obtain⟨⟨y,g⟩,hy⟩:=Option.ne_none_iff_exists'.1 h
  have hc:lk H.cur q=none:=by
   cases e:lk H.cur q with
   | none=>rfl
   | some x=>exact (all_dj hk e hy).elim
  cases g with
  | none=>exact .inr (.inl ⟨y,obF_o hc hy,nw_o hy⟩)
  | some q'=>exact .inr (.inr ⟨y,q',lko_mem hy,nw_g hy⟩)
theorem nw_le (hk:H.ok){q:Nat}(h:H.V q):H.nw q≤131072:=by
 rcases V_cases hk h with rfl|⟨y,h1,h2,_⟩|⟨y,q',h1,h2,_⟩
 ·rw[(nw_0 hk).1];omega
 ·have h3:=all_ok hk (obj_all h1)
  have:=hk.sz;have:=(Ob.size_bd h3.1).1;rw[h2];simp only at h3;omega
 ·rw[h2];exact (hk.gone _ h1 q' rfl).2
structure Vi (H:Hp)(f:Nat→Nat)(P:Nat→Ob→Ob)(g:Nat→Nat):Prop where
 ob:∀ p x,H.obj p=some x→ObAt g p (P p x)
 hd:∀ q,H.V q→g q=f q
def POk (H:Hp)(P:Nat→Ob→Ob):Prop:=∀ p x,H.obj p=some x→(P p x).shp=x.shp∧(P p x).ok
theorem size_shp {x y:Ob}(h:x.shp=y.shp):x.size=y.size:=by unfold Ob.size;rw[h]
theorem Vi.set (hk:H.ok){f g:Nat→Nat}{P P':Nat→Ob→Ob}(hP:POk H P)(h:Vi H f P g)(hp:H.obj p=some x){i q:Nat}(hi:i<x.shp.p)
  (h1:P' p x=(P p x).setPtr i q)(h2:∀ p' x',H.obj p'=some x'→p'≠p→P' p' x'=P p' x'):Vi H f P' (upd g (p+3+i) q):=by
 have hs:p+3+i<p+x.size:=by unfold Ob.size;omega
 have hx:=all_ok hk (obj_all hp);refine⟨fun p' x' hp'=>?_,fun q' hq'=>?_⟩
 ·by_cases e:p'=p
  ·subst e
   obtain rfl:x=x':=by rw[hp]at hp';injection hp'
   rw[h1];exact (h.ob _ _ hp).setPtr (hP _ _ hp).2 i q (by rw[(hP _ _ hp).1];exact hi)
  ·rw[h2 _ _ hp' e]
   refine (h.ob _ _ hp').of_eq (hP _ _ hp').2 fun j a b=>upd_ne _ _ _ _ ?_
   rw[size_shp (hP _ _ hp').1]at b;have:=all_apart hk (obj_all hp) (obj_all hp') (Ne.symm e);simp only at this;omega
 ·rw[upd_ne _ _ _ _ ?_]
  ·exact h.hd q' hq'
  ·rcases V_all.1 hq' with rfl|⟨y,hy⟩
   ·simp only at hx;omega
   ·by_cases e:q'=p
    ·omega
    ·have:=all_apart hk (obj_all hp) hy (Ne.symm e)
     have k:=Ob.size_bd (all_ok hk hy).1;simp only at this k;omega
theorem Vi.congr {f g:Nat→Nat}{P P':Nat→Ob→Ob}(h:Vi H f P g)(e:∀ p x,H.obj p=some x→P' p x=P p x):Vi H f P' g:=
 ⟨fun p x hp=>by rw[e p x hp];exact h.ob p x hp,h.hd⟩
def P0 (H:Hp)(D:List Nat):Nat→Ob→Ob:=fun p x=>if p ∈ D then H.fixO x else x
def partO (H:Hp)(j:Nat)(x:Ob):Ob:={ x with ptrs:=(x.ptrs.take j).map H.nw++x.ptrs.drop j }
def P1 (H:Hp)(D:List Nat)(p0 j:Nat):Nat→Ob→Ob:=fun p x=>if p=p0 then partO H j x else P0 H D p x
theorem fixO_ok (hk:H.ok)(hc:H.cl)(hp:H.obj p=some x):(H.fixO x).ok:=by
 have h:=(all_ok hk (obj_all hp)).1;refine⟨h.shp,by simp[Hp.fixO,h.lp],h.ln,fun y hy=>?_,h.num,h.ser,h.sec⟩
 obtain⟨q,hq,rfl⟩:=List.mem_map.1 hy;exact nw_le hk (hc p x hp q hq)
theorem partO_ok (hk:H.ok)(hc:H.cl)(hp:H.obj p=some x)(j:Nat):(partO H j x).ok:=by
 have h:=(all_ok hk (obj_all hp)).1;refine⟨h.shp,by simp only[partO,List.length_append,List.length_map,List.length_take,List.length_drop,h.lp];show _=x.shp.p;have:=h.lp;simp only at this;omega,h.ln,fun y hy=>?_,h.num,h.ser,h.sec⟩
 rcases List.mem_append.1 hy with hy|hy
 ·obtain⟨q,hq,rfl⟩:=List.mem_map.1 hy
  exact nw_le hk (hc p x hp q (List.mem_of_mem_take hq))
 ·exact h.ptr y (List.mem_of_mem_drop hy)
theorem P0_ok (hk:H.ok)(hc:H.cl)(D:List Nat):POk H (P0 H D):=fun p x hp=>by
 unfold P0;split
 ·exact⟨rfl,fixO_ok hk hc hp⟩
 ·exact⟨rfl,(all_ok hk (obj_all hp)).1⟩
theorem P1_ok (hk:H.ok)(hc:H.cl)(D:List Nat)(p0 j:Nat):POk H (P1 H D p0 j):=fun p x hp=>by
 unfold P1;split
 ·exact⟨rfl,partO_ok hk hc hp j⟩
 ·exact P0_ok hk hc D p x hp
theorem P1_zero {D:List Nat}{p0:Nat}(h:p0 ∉ D)(p:Nat)(x:Ob):P1 H D p0 0 p x=P0 H D p x:=by
 unfold P1 P0;split
 ·rename_i e;subst e;rw[if_neg h];simp[partO]
 ·rfl
theorem P1_end {D:List Nat}{p0:Nat}(hk:H.ok){n:Nat}(hn:∀ y,H.obj p0=some y→n=y.shp.p)(h:H.obj p=some x):P0 H (D++[p0]) p x=P1 H D p0 n p x:=by
 unfold P1 P0;by_cases e:p=p0
 ·subst e
  rw[if_pos (by simp),if_pos rfl]
  have hl:=(all_ok hk (obj_all h)).1.lp;simp only at hl;rw[hn _ h,←hl];simp[partO,Hp.fixO]
 ·rw[if_neg e]
  by_cases e2:p ∈ D
  ·rw[if_pos (by simp[e2]),if_pos e2]
  ·rw[if_neg (by simp[e,e2]),if_neg e2]
theorem P1_step (D:List Nat)(p0:Nat){j q:Nat}(hq:x.ptrs[j]?=some q):P1 H D p0 (j+1) p0 x=(P1 H D p0 j p0 x).setPtr j (H.nw q):=by
 unfold P1;rw[if_pos rfl,if_pos rfl];have hj:=(List.getElem?_eq_some_iff.1 hq).1;unfold partO Ob.setPtr;congr 1;simp only;rw[List.set_append,if_neg (by rw[List.length_map,List.length_take];omega),List.length_map,List.length_take,Nat.min_eq_left (by omega),Nat.sub_self,List.drop_eq_getElem_cons hj,List.set_cons_zero,List.take_add_one,hq]
 simp
theorem P1_same (D:List Nat)(p0:Nat){j q:Nat}(hq:x.ptrs[j]?=some q)(hg:H.nw q=q):P1 H D p0 (j+1) p0 x=P1 H D p0 j p0 x:=by
 unfold P1;rw[if_pos rfl,if_pos rfl];have hj:=(List.getElem?_eq_some_iff.1 hq).1;have e:=(List.getElem?_eq_some_iff.1 hq).2;unfold partO;congr 1;rw[List.drop_eq_getElem_cons hj,List.take_add_one,hq,e];simp[hg]
theorem P1_at (D:List Nat)(p0 j:Nat)(hq:(x.ptrs)[j]?=some p):(P1 H D p0 j p0 x).ptrs[j]?=some p:=by
 unfold P1;rw[if_pos rfl];have hj:=(List.getElem?_eq_some_iff.1 hq).1;unfold partO;simp only;rw[List.getElem?_append_right (by rw[List.length_map,List.length_take];omega),List.length_map,List.length_take,Nat.min_eq_left (by omega),Nat.sub_self,List.getElem?_drop]
 simpa using hq
end
section
variable {H : Hp} {w : World} {a wd : Nat} {f g : Nat → Nat} {P : Nat → Ob → Ob}
theorem vat_any (hk:H.ok)(hP:POk H P)(hW:Wds w a wd (2*H.size+1) g)(hV:Vi H f P g)(hz:f 0=0)(hO:∀ y ∈ H.old,∀ q,y.2.2=some q→f y.1=4*q+2){q:Nat}(hq:H.V q) :
  Calls Tryz.prog 181 #[.pointer (some ⟨a,0,none⟩),.int .i64 q] w fun e w'=>e=.returned (.tuple #[.int .i64 ((if H.go q then H.nw q else 0:Nat):Int),.bool (H.go q)])∧w=w':=by
 rcases V_cases hk hq with rfl|⟨y,h1,_,h3⟩|⟨y,q',h1,h2,h3⟩
 ·rw[(nw_0 hk).2]
  exact mat_zero hW (by omega) ((hV.hd 0 hq).trans hz)
 ·rw[h3]
  have h4:=all_ok hk (obj_all h1);refine mat_ob hW (hV.ob q y h1) (hP q y h1).2 ?_;rw[size_shp (hP q y h1).1];exact h4.2.2
 ·rw[h3,h2]
  have h4:=all_ok hk (List.mem_append_right H.cur (List.mem_map.2 ⟨_,h1,rfl⟩));have h5:=hk.gone _ h1 q' rfl;have h6:=(Ob.size_bd h4.1).1;simp only at h4 h6;exact mat_gone hW (by omega) q' h5.1 h5.2 ((hV.hd q hq).trans (hO _ h1 q' rfl))
theorem vshape_any (hk:H.ok)(hP:POk H P)(hW:Wds w a wd (2*H.size+1) g)(hV:Vi H f P g)(hO:∀ y ∈ H.old,∀ q,y.2.2=some q→f y.1=4*q+2){p:Nat}(hq:H.V p)(h0:p≠0) :
  Calls Tryz.prog 130 #[.pointer (some ⟨a,0,none⟩),.int .i64 p] w fun e w'=>∃ (s:Shp)(fr:Bool)(er:Int),e=.returned (.tuple #[shpV s,.bool fr,.int .i64 er])∧Below w.heap.size w w'∧((er=0∧∃ x,H.obj p=some x∧s=x.shp)∨(er≠0∧H.obj p=none)):=by
 rcases V_cases hk hq with rfl|⟨y,h1,_,h3⟩|⟨y,q',h1,h2,h3⟩
 ·exact absurd rfl h0
 ·have h4:=all_ok hk (obj_all h1)
  refine (oshape_any hW (hV.ob p y h1) (hP p y h1).2 (by rw[size_shp (hP p y h1).1];exact h4.2.2) p rfl).mono ?_
  rintro e w' ⟨rfl,hb⟩
  exact⟨_,_,0,rfl,hb,.inl ⟨rfl,y,h1,(hP p y h1).1⟩⟩
 ·have h4:=all_ok hk (List.mem_append_right H.cur (List.mem_map.2 ⟨_,h1,rfl⟩))
  have h5:=hk.gone _ h1 q' rfl;have h6:=(Ob.size_bd h4.1).1;simp only at h4 h6;refine (oshape_gone hW (by omega) q' h5.2 ((hV.hd p hq).trans (hO _ h1 q' rfl))).mono ?_
  rintro e w' ⟨er,hr,rfl,hb⟩
  refine⟨_,_,er,rfl,hb,.inr ⟨hr,?_⟩⟩
  cases e:H.obj p with
  | none=>rfl
  | some x =>
   rcases obj_cases e with k|k
   ·exact (all_dj hk (lk_mem' hk k) (lko_mem' hk h1)).elim
   ·have k1:=lko_mem' hk k
    have k2:=lko_mem' hk h1;simp only at k1 k2;rw[k1]at k2;cases k2
end
theorem bwr {b:Nat}{w w1 w2:World}(h:Below w.heap.size w w1)(k:Wr b w1 w2)(hn:w.heap.size≤b):Below w.heap.size w w2:=
 ⟨k.os.trans h.os,k.tape.trans h.tape,k.output.trans h.output,Nat.le_trans h.size k.size,fun j hj=>(k.block j (Nat.lt_of_lt_of_le hj h.size) (by omega)).trans (h.block j hj)⟩
structure Lays (w:World)(o:Own)(H:Hp)(v1 v2:Value)(A1 A2:List Nat):Prop where
 r1:∃ t,Row w o t 3 1 v1 A1.length (A1.map nv)
 r2:∃ t,Row w o t 3 1 v2 A2.length (A2.map nv)
 nd:(A1++A2).Nodup
 v:∀ p ∈ A1++A2,H.V p∧p≠0
 ob:∀ p x,H.obj p=some x→p ∈ A1++A2
 n:A1.length≤100000∧A2.length≤100000
theorem HpIn.c78 {w:World}{o:Own}{l:HLay}{H:Hp}{vc vo vw vf:Value}{f:Nat→Nat}(h:HpIn w o l H vc vo vw vf f):w.cell? ⟨l.h,7,none⟩=some (if H.use then vo else vc)∧w.cell? ⟨l.h,8,none⟩=some (if H.use then vc else vo):=by
 rw[h.hb.cell,h.hb.cell];unfold Hp.cells
 cases H.use<;>exact⟨rfl,rfl⟩
theorem HpIn.lays {w:World}{o:Own}{l:HLay}{H:Hp}{vc vo vw vf:Value}{f:Nat→Nat}(h:HpIn w o l H vc vo vw vf f)(hk:H.ok):∃ A1 A2,Lays w o H (if H.use then vo else vc) (if H.use then vc else vo) A1 A2:=by
 have rc:∃ t,Row w o t 3 1 vc (H.cur.map (·.1)).length ((H.cur.map (·.1)).map nv):=⟨_,by rw[List.length_map,List.map_map];exact h.rc⟩
 have ro:∃ t,Row w o t 3 1 vo (H.old.map (·.1)).length ((H.old.map (·.1)).map nv):=⟨_,by rw[List.length_map,List.map_map];exact h.ro⟩
 have n1:(H.cur.map (·.1)).Nodup:=(laid_sorted _ _ _ hk.cl hk.ck).imp fun h=>by omega
 have n2:(H.old.map (·.1)).Nodup:=(old_sorted hk).imp fun h=>by omega
 have l1:=cur_len hk;have l2:=old_len hk;have hv:∀ p,p ∈ H.cur.map (·.1)∨p ∈ H.old.map (·.1)→H.V p∧p≠0:=fun p hp=>by
  rcases hp with hp|hp
  ·obtain⟨y,hy,rfl⟩:=List.mem_map.1 hp
   have k:=all_ok hk (List.mem_append_left H.olds hy);exact⟨V_all.2 (.inr ⟨y.2,List.mem_append_left H.olds hy⟩),by omega⟩
  ·obtain⟨y,hy,rfl⟩:=List.mem_map.1 hp
   have m:(y.1,y.2.1) ∈ H.all:=List.mem_append_right H.cur (List.mem_map.2 ⟨_,hy,rfl⟩);have k:=all_ok hk m;exact⟨V_all.2 (.inr ⟨y.2.1,m⟩),by simp only at k;omega⟩
 have dj:∀ a ∈ H.cur.map (·.1),∀ b ∈ H.old.map (·.1),a≠b:=fun a ha b hb e=>by
  subst e;obtain⟨y,hy,e⟩:=List.mem_map.1 ha;obtain⟨z,hz,e2⟩:=List.mem_map.1 hb;have k:=Hp.apart hk hy hz;have k1:=Ob.size_bd (hk.ck _ hy);have k2:=Ob.size_bd (hk.ok (z.1,z.2.1) (List.mem_map.2 ⟨_,hz,rfl⟩));simp only at k1 k2;omega
 have ho:∀ p x,H.obj p=some x→p ∈ H.cur.map (·.1)∨p ∈ H.old.map (·.1):=fun p x hp=>by
  rcases obj_cases hp with k|k
  ·exact .inl (List.mem_map.2 ⟨_,k,rfl⟩)
  ·exact .inr (List.mem_map.2 ⟨_,k,rfl⟩)
 cases H.use
 ·exact⟨_,_,rc,ro,List.nodup_append.2 ⟨n1,n2,dj⟩,fun p hp=>hv p (List.mem_append.1 hp),fun p x hp=>List.mem_append.2 (ho p x hp),by rw[List.length_map,List.length_map];omega⟩
 ·exact⟨_,_,ro,rc,List.nodup_append.2 ⟨n2,n1,fun a ha b hb e=>dj b hb a ha e.symm⟩,fun p hp=>hv p (List.mem_append.1 hp).symm,fun p x hp=>List.mem_append.2 (ho p x hp).symm,by rw[List.length_map,List.length_map];omega⟩
def preL (A1 A2:List Nat)(i:Nat):List Nat:=if i=0 then [] else if i=1 then A1 else A1++A2
theorem run_ix0 (x y:Value)(W:World):(Instr.index 183 (.agg #[x,y]) (.int .i64 0)).run Tryz.prog W=.ok x W:=by kernel_rfl
theorem run_ix1 (x y:Value)(W:World):(Instr.index 183 (.agg #[x,y]) (.int .i64 1)).run Tryz.prog W=.ok y W:=by kernel_rfl
theorem Lays.at {w:World}{o:Own}{H:Hp}{v1 v2:Value}{A1 A2:List Nat}(h:Lays w o H v1 v2 A1 A2){i:Nat}(hi:i<2) :
  ∃ A,(∃ t,Row w o t 3 1 (if i=0 then v1 else v2) A.length (A.map nv))∧preL A1 A2 (i+1)=preL A1 A2 i++A∧(preL A1 A2 i++A).Nodup∧(∀ p ∈ A,H.V p∧p≠0)∧A.length≤100000:=by
 rcases (show i=0∨i=1 by omega) with rfl|rfl
 ·exact⟨A1,h.r1,rfl,(List.nodup_append.1 h.nd).1,fun p hp=>h.v p (List.mem_append_left _ hp),h.n.1⟩
 ·exact⟨A2,h.r2,rfl,h.nd,fun p hp=>h.v p (List.mem_append_right _ hp),h.n.2⟩
theorem Vi.agree {H:Hp}{f g:Nat→Nat}{P:Nat→Ob→Ob}(hk:H.ok)(hP:POk H P)(h:Vi H f P f)(e:∀ j,j<2*H.size+1→g j=f j):Vi H f P g:=by
 refine⟨fun p x hp=>(h.ob p x hp).of_eq (hP p x hp).2 fun j _ hj=>e j ?_,fun q hq=>e q ?_⟩
 ·rw[size_shp (hP p x hp).1]at hj
  have:=(all_ok hk (obj_all hp)).2.2;simp only at this;omega
 ·rcases V_all.1 hq with rfl|⟨y,hy⟩
  ·omega
  ·have k:=all_ok hk hy
   have:=(Ob.size_bd k.1).1;simp only at k this;omega
theorem nd_at {D A:List Nat}(h:(D++A).Nodup){k p:Nat}(hp:A[k]?=some p):p ∉ D++A.take k:=by
 have hk:=(List.getElem?_eq_some_iff.1 hp);obtain⟨hl,e⟩:=hk;have e2:D++A=(D++A.take k)++(p::A.drop (k+1)):=by
  rw[List.append_assoc,←e,←List.drop_eq_getElem_cons hl,List.take_append_drop]
 rw[e2]at h;exact fun hm=>(List.nodup_append.1 h).2.2 p hm p (by simp) rfl
section
variable {w : World} {o : Own} {l : HLay} {H : Hp} {vc vo vw vf : Value} {f : Nat → Nat}
theorem hview_any (h:HpIn w o l H vc vo vw vf f)(hk:H.ok)(hz:f 0=0)(hc:H.cl) :
  Calls Tryz.prog 115 #[.pointer (some ⟨l.h,0,none⟩)] w fun e w'=>∃ a wd g,e=.returned (.tuple #[.pointer (some ⟨a,0,none⟩),.int .i64 0])∧GIn w' a wd (2*H.size+1) g H.vw∧Below w.heap.size w w':=by
 obtain⟨A1,A2,hL⟩:=h.lays hk;have hsz:=hk.sz;obtain⟨L,hLe⟩:∃ L,L=2*H.size+1:=⟨_,rfl⟩;have hO:∀ y ∈ H.old,∀ q,y.2.2=some q→f y.1=4*q+2:=fun y hy q hq=>(h.olds y hy).2 q hq
 have HW:=Lib.hid (fun (W:World)(hb:Below w.heap.size w W)=>show Wds W l.a l.wd L f from by rw[hLe];exact (h.below hb).wds)
 have HL:=Lib.hid (fun (W:World)(hb:Below w.heap.size w W)=>show W.cell? ⟨l.h,0,none⟩=some (.pointer (some ⟨l.a,0,none⟩))∧W.cell? ⟨l.h,7,none⟩=some (if H.use then vo else vc)∧W.cell? ⟨l.h,8,none⟩=some (if H.use then vc else vo) from ⟨(h.below hb).c0,(h.below hb).c78⟩)
 generalize (if H.use then vo else vc)=v1 at hL HL
 generalize (if H.use then vc else vo)=v2 at hL HL
 have hi0:Vi H f (P0 H []) f:=⟨fun p x hp=>by
  unfold P0;rw[if_neg (by simp)]
  rcases obj_cases hp with k|k
  ·exact h.obs _ k
  ·exact (h.olds _ k).1 rfl,fun _ _=>rfl⟩
 have HI:=Lib.hid hi0;clear hi0;have hL1:1≤L:=by omega
 have hL2:L≤65536:=by omega
 have hLI:(L:Int)≤65536:=by omega
 have hp0:=(HL.out w (bsame w)).1;have HO:=Lib.hid hO;have HZ:=Lib.hid hz;have HC:=Lib.hid hc;have HK:=Lib.hid hk;have HLe:=Lib.hid hLe;have HLL:=Lib.hid hL;have HLen:=Lib.hid (ar_len (HW.out w (bsame w)));have HNew:=Lib.hid (ar_new L hL1 hL2 L rfl w);clear h hO hz hc hk hLe hL hsz;go_enter Tryz.func115,Tryz.ntmps115;go_wp2_with fail;refine HLen.out.mono ?_
 rintro e w0 ⟨rfl,rfl⟩
 go_wp2_with fail;refine HNew.out.mono ?_
 rintro e w1 ⟨a,wd,rfl,hW1,ha,hwd,hb1⟩
 clear HLen HNew hp0;have HLen1:=Lib.hid (ar_len hW1);go_wp2_with fail;refine HLen1.out.mono ?_
 rintro e w2 ⟨rfl,rfl⟩
 clear HLen1;go_wp2_with fail;go_loopw [35] (fun ix wr=>∃ (i:Nat)(g:Nat→Nat),ix=.int .i64 i∧i≤L∧Wds wr a wd L g∧(∀ j,j<i→g j=f j)∧Below w.heap.size w wr) (fun ix _=>L-(intOf ix).toNat)
 case atStart=>exact⟨0,_,rfl,Nat.zero_le _,hW1,fun j hj=>by omega,hb1⟩
 case round =>
  obtain⟨i,g,rfl,hi,hW,hg,hb⟩:=hrel;clear hW1 hb1;by_cases hlt:i<L
  ·have hltI:(i:Int)<(L:Int):=by omega
   have c0:=(HL.out wr hb).1;have HLd:=Lib.hid (ar_load (HW.out wr hb) i i rfl hlt);have HSt:=Lib.hid (ar_store hW i i (f i) rfl hlt (f i) rfl);clear hW;go_wp2_with fail;refine HLd.out.mono ?_
   rintro e w3 ⟨rfl,rfl⟩
   go_wp2_with fail;refine HSt.out.mono ?_
   rintro e w4 ⟨rfl,hW4,hR4⟩
   go_wp2_with fail;go_roundw
   case rel=>exact⟨i+1,_,by simp,by omega,hW4,fun j hj=>by
    by_cases e:j=i
    ·subst e;exact upd_at _ _ _
    ·rw[upd_ne _ _ _ _ e];exact hg j (by omega),bwr hb hR4 hwd⟩
   case measure=>simp[intOf]<;>omega
  ·obtain rfl:i=L:=by omega
   have HVV:Vi H f (P0 H []) g:=Vi.agree HK.out (P0_ok HK.out HC.out []) HI.out fun j hj=>hg j (by rw[HLe.out];exact hj)
   have c0:=HL.out wr hb;have c7:=c0.2.1;have c8:=c0.2.2;clear c0 hlt hg;go_wp2_with fail;clear c7 c8;go_loopw [56] (fun ix wr=>∃ (k:Nat)(g:Nat→Nat),ix=.int .i64 k∧k≤2∧Wds wr a wd i g∧Vi H f (P0 H (preL A1 A2 k)) g∧Below w.heap.size w wr) (fun ix _=>2-(intOf ix).toNat)
   case atStart=>exact⟨0,g,rfl,by omega,hW,HVV,hb⟩
   case round =>
    clear hW HVV hb;obtain⟨m,g,rfl,hm,hW,hV,hb⟩:=hrel;by_cases hlt:m<2
    ·obtain⟨A,⟨t,hr⟩,hpre,hnd,hAv,hAn⟩:=HLL.out.at hlt
     obtain⟨D,hD⟩:∃ D,D=preL A1 A2 m:=⟨_,rfl⟩;rw[←hD]at hV hpre hnd;have HR:=Lib.hid (fun (W:World)(hb:Below w.heap.size w W)=>hr.below hb)
     have HAv:=Lib.hid hAv;have HND:=Lib.hid hnd;have HPre:=Lib.hid hpre;have hF:=hr.form;have x0:=run_ix0;have x1:=run_ix1;clear hr hAv hnd hpre hD;rcases (show ((m:Int)=0∧m=0)∨((m:Int)=1∧m=1) by omega) with ⟨e1,rfl⟩|⟨e1,rfl⟩
     all_goals
      rw[e1];clear e1;first|rw[if_pos rfl]at hF|rw[if_neg (by decide)]at hF
      rcases hF with ⟨rfl,h0⟩|⟨gb,cp,rfl,hn1,hn2,_,_⟩
      ·have hA0:A=[]:=List.eq_nil_of_length_eq_zero h0
       subst hA0;clear h0;go_wp2_with fail;go_loopw [61] (fun ix wr'=>ix=.int .i64 0∧wr'=wr) (fun _ _=>0)
       case atStart=>exact⟨rfl,rfl⟩
       case round =>
        obtain⟨rfl,rfl⟩:=hrel;go_wp2_with fail;go_roundw
        case rel=>first|exact⟨1,g,rfl,by omega,hW,by rw[show preL A1 A2 1=_ from HPre.out,List.append_nil];exact hV,hb⟩|exact⟨2,g,rfl,by omega,hW,by rw[show preL A1 A2 2=_ from HPre.out,List.append_nil];exact hV,hb⟩
        case measure=>simp[intOf]<;>omega
      ·go_wp2_with fail
       go_loopw [61] (fun ix wr=>∃ (k:Nat)(g:Nat→Nat),ix=.int .i64 k∧k≤A.length∧Wds wr a wd i g∧Vi H f (P0 H (D++A.take k)) g∧Below w.heap.size w wr) (fun ix _=>A.length-(intOf ix).toNat)
       case atStart=>exact⟨0,g,rfl,Nat.zero_le _,hW,by simpa using hV,hb⟩
       case round =>
        clear hW hV hb;obtain⟨k,g,rfl,hk,hW,hV,hb⟩:=hrel;by_cases hlt:k<A.length
        ·obtain⟨p,hp⟩:∃ p,A[k]?=some p:=⟨_,List.getElem?_eq_getElem hlt⟩
         have hltI:(k:Int)<(A.length:Int):=by omega
         have htk:A.take (k+1)=A.take k++[p]:=by rw[List.take_add_one,hp];rfl
         have hpA:=HAv.out p (List.mem_of_getElem? hp);have hpn:=nd_at HND.out hp;have cx:wr.cell? ⟨gb,k,none⟩=some (.int .i64 p):=(HR.out wr hb).cells k _ (by rw[List.getElem?_map,hp];rfl)
         have HS:=Lib.hid (vshape_any HK.out (P0_ok HK.out HC.out _) (by rw[←HLe.out];exact hW) hV HO.out hpA.1 hpA.2)
         have HTk:=Lib.hid htk;have HPn:=Lib.hid hpn;have HPA:=Lib.hid hpA;have HW0:=Lib.hid hW;have HV0:=Lib.hid hV;obtain⟨D',hD'⟩:∃ D',D'=D++A.take k:=⟨_,rfl⟩;have HD':=Lib.hid hD';clear hp htk hpA hpn hW hV hD';go_wp2_with fail;refine HS.out.mono ?_
         rintro e w5 ⟨s,fr,er,rfl,hb5,hcase⟩
         obtain⟨sp,sd,sw,sf⟩:=s;have hb6:=btrans hb hb5;rcases hcase with ⟨rfl,x,hx,hs⟩|⟨hne,hx⟩
         ·have hnx:sp=x.shp.p:=by rw[←hs]
          have hx8:sp≤8:=by rw[hnx];exact (all_ok HK.out (obj_all hx)).1.shp.1
          have HX:=Lib.hid hx;have HNX:=Lib.hid hnx;have jB:=Blk.new w5 #[.int .i64 sp,.int .i64 sd,.bool sw,.bool sf] 93;have cB:=jB.cell;have hb7:=balloc hb6 (.cells #[.int .i64 sp,.int .i64 sd,.bool sw,.bool sf] 93);have hW7:=HW0.out.below (balloc hb5 (.cells #[.int .i64 sp,.int .i64 sd,.bool sw,.bool sf] 93));clear hx hnx hs hb5 hb6 jB hb;go_wp2_with fail;clear cB;go_loopw [76] (fun ix wr=>∃ (j:Nat)(g:Nat→Nat),ix=.int .i64 j∧j≤sp∧Wds wr a wd i g∧Vi H f (P1 H D' p j) g∧Below w.heap.size w wr) (fun ix _=>sp-(intOf ix).toNat)
          case atStart=>exact⟨0,g,rfl,Nat.zero_le _,hW7,HV0.out.congr fun q y _=>by rw[←HD'.out];exact P1_zero (by rw[HD'.out];exact HPn.out) q y,hb7⟩
          case round =>
           clear hW7 hb7;obtain⟨j,g,rfl,hj,hW,hV,hb⟩:=hrel;by_cases hlt2:j<sp
           ·have hltJ:(j:Int)<(sp:Int):=by omega
            have hj8:(j:Int)<8:=by omega
            have hxo:=all_ok HK.out (obj_all HX.out);obtain⟨q,hq⟩:∃ q,x.ptrs[j]?=some q:=⟨_,List.getElem?_eq_getElem (by have:=hxo.1.lp;simp only at this;rw[this,←HNX.out];exact hlt2)⟩
            have hqv:=HC.out p x HX.out q (List.mem_of_getElem? hq);have hPk:=P1_ok HK.out HC.out D' p j p x HX.out;have hWL:Wds wr a wd (2*H.size+1) g:=by rw[←HLe.out];exact hW
            have hlL:p+(P1 H D' p j p x).size≤2*H.size+1:=by rw[size_shp hPk.1];exact hxo.2.2
            have HG:=Lib.hid (optr_get hWL (hV.ob p x HX.out) hPk.2 hlL j q (P1_at D' p j hq) p j rfl rfl);have HA:=Lib.hid (fun (W:World)(hb:Below wr.heap.size wr W)=>vat_any HK.out (P1_ok HK.out HC.out D' p j) (hWL.below hb) hV HZ.out HO.out hqv)
            have HSP:=Lib.hid (fun (W:World)(hb:Below wr.heap.size wr W)=>osetptr_any (hWL.below hb) (hV.ob p x HX.out) hPk.2 hlL j (H.nw q) (by rw[hPk.1,←HNX.out];exact hlt2) (nw_le HK.out hqv) p j (H.nw q:Nat) rfl rfl rfl)
            have hql:q≤131072:=by
             have:=hxo.1.ptr q (List.mem_of_getElem? hq);exact this
            have HQ:=Lib.hid hq;have HVv:=Lib.hid hV;have HWw:=Lib.hid hW;obtain⟨gq,hgq⟩:∃ b,b=H.go q:=⟨_,rfl⟩;obtain⟨nq,hnq⟩:∃ b,b=H.nw q:=⟨_,rfl⟩;have hnq8:nq≤131072:=by rw[hnq];exact nw_le HK.out hqv
            rw[←hgq,←hnq]at HA;rw[←hnq]at HSP;have HGq:=Lib.hid hgq;have HNq:=Lib.hid hnq;clear hq hqv hPk hWL hlL hV hW hxo hgq hnq;go_wp2_with fail;refine HG.out.mono ?_
            rintro e w8 ⟨rfl,hb8⟩
            go_wp2_with fail;refine (HA.out _ hb8).mono ?_
            rintro e w9 ⟨rfl,rfl⟩
            cases gq
            ·go_wp2_with fail
             go_roundw
             case rel=>exact⟨j+1,g,by simp,by omega,HWw.out.below hb8,HVv.out.congr fun q' y hy=>by
              by_cases e:q'=p
              ·subst e
               obtain rfl:x=y:=by have:=HX.out;rw[hy]at this;injection this with this;exact this.symm
               exact P1_same D' q' HQ.out (nw_not HGq.out.symm)
              ·unfold P1;rw[if_neg e,if_neg e],btrans hb hb8⟩
             case measure=>simp[intOf]<;>omega
            ·simp only[if_true]
             go_wp2_with fail;refine (HSP.out _ hb8).mono ?_
             rintro e w10 ⟨rfl,hT⟩
             go_wp2_with fail;go_roundw
             case rel=>exact⟨j+1,_,by simp,by omega,by rw[HLe.out];exact hT.1,HVv.out.set HK.out (P1_ok HK.out HC.out D' p j) HX.out (by rw[←HNX.out];exact hlt2) (by rw[HNq.out];exact P1_step D' p HQ.out) (fun p' x' _ e=>by unfold P1;rw[if_neg e,if_neg e]),bwr (btrans hb hb8) hT.2 hwd⟩
             case measure=>simp[intOf]<;>omega
           ·obtain rfl:j=sp:=by omega
            clear hlt2;go_wp2_with fail;go_roundw
            case rel=>exact⟨k+1,g,by simp,by omega,hW,by
             rw[HTk.out,←List.append_assoc,←HD'.out];exact hV.congr fun q y hy=>P1_end HK.out (fun z hz=>by rw[HNX.out];have:=HX.out;rw[hz]at this;injection this with this;rw[this]) hy,hb⟩
            case measure=>simp[intOf]<;>omega
         ·have HX:=Lib.hid hx
          clear hx;go_wp2_with fail;go_roundw
          case rel=>exact⟨k+1,g,by simp,by omega,(HW0.out.below hb5).below (balloc (bsame _) _),by
           rw[HTk.out,←List.append_assoc];exact HV0.out.congr fun q y hy=>by
            unfold P0;have hq:q≠p:=fun e=>by subst e;rw[HX.out]at hy;cases hy
            simp[hq],balloc hb6 _⟩
          case measure=>simp[intOf]<;>omega
        ·obtain rfl:k=A.length:=by omega
         clear hlt;go_wp2_with fail;go_roundw
         case rel=>first|exact⟨1,g,rfl,by omega,hW,by rw[show preL A1 A2 1=_ from HPre.out,←List.take_length (l:=A)];exact hV,hb⟩|exact⟨2,g,rfl,by omega,hW,by rw[show preL A1 A2 2=_ from HPre.out,←List.take_length (l:=A)];exact hV,hb⟩
         case measure=>simp[intOf]<;>omega
    ·obtain rfl:m=2:=by omega
     clear hlt;go_wp2_with fail;go_ret2;refine⟨a,wd,g,rfl,⟨by rw[←HLe.out];exact hW,fun p y hy=>?_⟩,hb⟩
     unfold Hp.vw at hy
     cases e:H.obj p with
     | none=>rw[e]at hy;cases hy
     | some x =>
      rw[e]at hy;injection hy with hy;subst hy;have k1:=hV.ob p x e;unfold P0 at k1;rw[if_pos (show p ∈ preL A1 A2 2 from HLL.out.ob p x e)]at k1;exact⟨k1,fixO_ok HK.out HC.out e,by rw[size_shp (show (H.fixO x).shp=x.shp from rfl)];exact (all_ok HK.out (obj_all e)).2.2⟩
end
theorem HpIn.gin {w : World} {o : Own} {l : HLay} {H : Hp} {vc vo vw vf : Value} {f : Nat → Nat} (h : HpIn w o l H vc vo vw vf f) (hk : H.ok) : GIn w l.a l.wd (2 * H.size + 1) f (lk H.cur) :=
  ⟨h.wds, fun p x hx => by
    have hm := lk_mem hx
    have h1 := laid_mem _ _ _ hk.cl _ hm
    have h2 := hk.room
    have h3 := hk.ck _ hm
    have h4 : x.size ≤ rnd x.size := by
      have a1 := h3.shp.1; have a2 := h3.shp.2.1; have a3 := h3.lp; have a4 := h3.ln
      simp only at a1 a2 a3 a4
      exact (rnd_ge x.size (by unfold Ob.size; omega)).1
    have h5 : H.base H.use ≤ 1 + H.size := by unfold Hp.base; split <;> omega
    simp only at h1
    exact ⟨h.obs _ hm, h3, by omega⟩⟩
def Hp.rch (H:Hp)(roots:List Nat):List Nat:=reachG H.vw (H.all.map (·.1)).length roots
def Hp.cnn (H:Hp)(roots:List Nat):List Nd:=canonG H.vw (H.rch roots) (H.rch roots)
theorem vw_still {H:Hp}(hk:H.ok)(hm:H.moving=false):H.vw=lk H.cur:=by
 have ho:=hk.still hm;have hn:H.nw=id:=by funext q;unfold Hp.nw nowF;rw[ho];rfl
 have hf:H.fixO=id:=by funext x;unfold Hp.fixO;rw[hn];simp
 funext p;unfold Hp.vw Hp.obj obF;rw[hf,ho]
 cases lk H.cur p<;>rfl
theorem vw_cur {H:Hp}{p:Nat}(h:(lk H.cur p).isSome=true):(H.vw p).isSome=true:=by
 obtain⟨x,hx⟩:=Option.isSome_iff_exists.1 h;unfold Hp.vw Hp.obj;rw[obF_c hx];rfl
theorem vw_ok {H:Hp}(hk:H.wf)(hc:H.cl):GOk H.vw (H.all.map (·.1)):=by
 have ho:∀ p,(H.vw p).isSome=true→∃ x,H.obj p=some x:=fun p hp=>by
  unfold Hp.vw at hp
  cases e:H.obj p with
  | none=>rw[e]at hp;simp at hp
  | some x=>exact⟨x,rfl⟩
 refine⟨fun p hp=>?_,?_,fun p hp=>?_,fun p x hx q hq=>?_⟩
 ·obtain⟨x,hx⟩:=ho p hp
  exact List.mem_map.2 ⟨_,obj_all hx,rfl⟩
 ·have:=cur_len hk.ok
  have:=old_len hk.ok;unfold Hp.all Hp.olds;simp only[List.map_append,List.length_append,List.length_map];omega
 ·obtain⟨x,hx⟩:=ho p hp
  have h1:=all_ok hk.ok (obj_all hx);have:=hk.ok.sz;have:=(Ob.size_bd h1.1).1;simp only at h1;omega
 ·unfold Hp.vw at hx
  cases e:H.obj p with
  | none=>rw[e]at hx;cases hx
  | some y =>
   rw[e]at hx;injection hx with hx;subst hx;obtain⟨q0,h0,rfl⟩:=List.mem_map.1 hq;rcases V_cases hk.ok (hc p y e q0 h0) with rfl|⟨z,h1,h2,_⟩|⟨z,q',h1,h2,_⟩
   ·exact .inl (nw_0 hk.ok).1
   ·refine .inr ?_
    rw[h2];unfold Hp.vw;rw[h1];rfl
   ·obtain⟨ob,h3,_⟩:=hk.gn _ h1 q' rfl
    refine .inr ?_;rw[h2];exact vw_cur (by rw[h3];rfl)
section
variable {w : World} {o : Own} {l : HLay} {H : Hp} {vc vo vw vf : Value} {f : Nat → Nat}
theorem hcanonV_any (h:HpIn w o l H vc vo vw vf f)(hk:H.wf)(hz:f 0=0)(hc:H.cl){v:Value}{roots:List Nat}{ov:Own}{t:Tag}(hv:Row w ov t 3 1 v roots.length (roots.map nv))(hr:OkP (lk H.cur) roots)(hn:roots.length≤1000000) :
  Calls Tryz.prog 50 #[.pointer (some ⟨l.h,0,none⟩),v] w fun e w'=>∃ v1 v2 oo,e=.returned (.tuple #[v1,v2,.int .i64 0])∧NdsIn w' oo v1 (H.cnn roots) ∧
   Row w' oo (55,0) 3 1 v2 roots.length (ixs (H.rch roots) roots)∧Below w.heap.size w w'∧Old w.heap.size oo:=by
 have hrv:OkP H.vw roots:=fun p hp=>(hr p hp).imp id vw_cur
 have HGC:=Lib.hid (fun (W:World)(a wd L:Nat)(g:Nat→Nat)(hg:GIn W a wd L g H.vw)(hb:Below w.heap.size w W)=>show Calls Tryz.prog 114 #[.pointer (some ⟨a,0,none⟩),v] W fun e w'=>∃ v1 v2 oo,e=.returned (.tuple #[v1,v2,.int .i64 0])∧NdsIn w' oo v1 (H.cnn roots) ∧
   Row w' oo (55,0) 3 1 v2 roots.length (ixs (H.rch roots) roots)∧Below W.heap.size W w'∧Old W.heap.size oo from gcanon_any hg (vw_ok hk hc) (hv.below hb) hrv hn)
 have HVw:=Lib.hid (fun (W:World)(hb:Below w.heap.size w W)=>hview_any (h.below hb) hk.ok hz hc)
 have HSt:=Lib.hid (fun (hm:H.moving=false)(W:World)(hb:Below w.heap.size w W)=>show GIn W l.a l.wd (2*H.size+1) f H.vw from by rw[vw_still hk.ok hm];exact (h.below hb).gin hk.ok)
 have HH:=Lib.hid (fun (W:World)(hb:Below w.heap.size w W)(p:Nat)(hp:(lk H.cur p).isSome=true)=>show Calls Tryz.prog 61 #[.pointer (some ⟨l.h,0,none⟩),.int .i64 p] W fun e w'=>e=.returned (.bool true)∧Below W.heap.size W w' from by
  have:=here_any (h.below hb) hk.ok p p rfl;rw[hp]at this;exact this)
 have HC:=Lib.hid (fun (W:World)(hb:Below w.heap.size w W)=>show W.cell? ⟨l.h,0,none⟩=some (.pointer (some ⟨l.a,0,none⟩))∧W.cell? ⟨l.h,10,none⟩=some (.bool H.moving) from by
  refine⟨(h.below hb).c0,?_⟩;rw[(h.below hb).hb.cell];unfold Hp.cells;split<;>rfl)
 obtain⟨pv,cv,rfl⟩:=hv.slc;have HV:=Lib.hid hv;have HR:=Lib.hid hr;obtain⟨n,hnn⟩:∃ n,n=roots.length:=⟨_,rfl⟩;rw[←hnn]at HV HGC hn ⊢;have HN:=Lib.hid hnn;have HNm:=Lib.hid hn;obtain⟨mv,hmv⟩:∃ b,b=H.moving:=⟨_,rfl⟩;rw[←hmv]at HC HSt;clear h hk hc hz hv hr hrv hn hnn hmv;go_enter Tryz.func50,Tryz.ntmps50;go_wp2_with fail;go_loopw [13] (fun ix wr=>∃ k:Nat,ix=.int .i64 k∧k≤n∧Below w.heap.size w wr) (fun ix _=>n-(intOf ix).toNat)
 case atStart=>exact⟨0,rfl,Nat.zero_le _,bsame w⟩
 case round =>
  obtain⟨k,rfl,hkn,hb⟩:=hrel;by_cases hlt:k<n
  ·have hkI:(k:Int)<(n:Int):=by omega
   have HW:=Lib.hid (wrap_nat k (by have:=HNm.out;omega))
   obtain⟨x,hx⟩:∃ x,roots[k]?=some x:=⟨_,List.getElem?_eq_getElem (by rw[←HN.out];exact hlt)⟩
   obtain⟨g,e,hcell,hcap⟩:∃ g,pv=some ⟨g,0,none⟩∧wr.cell? ⟨g,k,none⟩=some (.int .i64 x)∧n≤cv:=by
    rcases (HV.out.below hb).form with ⟨_,h0⟩|⟨g,cap,e,hcap,_⟩
    ·omega
    ·injection e with e1 _ e3
     subst e1 e3;exact⟨g,rfl,(HV.out.below hb).cells k _ (by rw[List.getElem?_map,hx];rfl),hcap⟩
   subst e;have hxG:=HR.out x (List.mem_of_getElem? hx);by_cases h0:x=0
   ·subst h0
    have HB:=Lib.hid hb;clear hb hx hxG;obtain⟨hw1,hw2⟩:=HW.out;go_wp2_with fail;go_roundw
    case rel=>exact⟨k+1,by simp,hlt,HB.out⟩
    case measure=>simp[intOf];omega
   ·have hp0:((x:Int)==0)=false:=by rw[beq_eq_false_iff_ne];omega
    have HHx:=Lib.hid (HH.out wr hb x (hxG.resolve_left h0));have HB:=Lib.hid hb;clear hb hx hxG;obtain⟨hw1,hw2⟩:=HW.out;go_wp2_with (first
     | (go_at_call 61;refine HHx.out.mono ?_;rintro e w3 ⟨rfl,hb3⟩)
     | fail)
    go_roundw
    case rel=>exact⟨k+1,by simp,hlt,btrans HB.out hb3⟩
    case measure=>simp[intOf];omega
  ·obtain rfl:k=n:=by omega
   obtain⟨c0,c10⟩:=HC.out wr hb;clear hlt hkn HV
   cases mv
   ·have HG2:=Lib.hid (HGC.out wr _ _ _ _ (HSt.out rfl wr hb) hb)
    have HB:=Lib.hid hb;clear hb;go_wp2_with (first
     | (go_at_call 114;refine HG2.out.mono ?_;rintro e w3 ⟨v1,v2,oo,rfl,hN,hR2,hb3,hO⟩)
     | fail)
    go_ret3;exact⟨v1,v2,oo,rfl,hN,hR2,btrans HB.out hb3,fun b hb=>hO b (Nat.lt_of_lt_of_le hb HB.out.size)⟩
   ·have HV2:=Lib.hid (HVw.out wr hb)
    have HB:=Lib.hid hb;clear hb;go_wp2_with (first
     | (go_at_call 115;refine HV2.out.mono ?_;rintro e w3 ⟨a,wd,g,rfl,hg,hb3⟩)
     | fail)
    clear HV2 HVw;have HG2:=Lib.hid (HGC.out w3 _ _ _ _ hg (btrans HB.out hb3));clear hg;go_wp2_with (first
     | (go_at_call 114;refine HG2.out.mono ?_;rintro e w4 ⟨v1,v2,oo,rfl,hN,hR2,hb4,hO⟩)
     | fail)
    go_ret3;exact⟨v1,v2,oo,rfl,hN,hR2,btrans (btrans HB.out hb3) hb4,fun b hb=>hO b (Nat.lt_of_lt_of_le hb (btrans HB.out hb3).size)⟩
end
section
variable {w : World} {o : Own} {y : SLay} {S : Stt}
theorem scanonV_any (h:StIn w o y S)(hk:S.ok)(hc:S.H.cl){v:Value}{ps:List Nat}{t:Tag}(hv:Row w o t 3 1 v ps.length (ps.map nv))(hp:ps.length≤100000)(hr:OkP (lk S.H.cur) (S.places ps))(hn:(S.places ps).length≤1000000) :
  Calls Tryz.prog 15 #[ptr y.sb,v] w fun e w'=>∃ v1 v2 oo,e=.returned (.tuple #[v1,v2,.int .i64 0])∧NdsIn w' oo v1 (S.H.cnn (S.places ps)) ∧
   Row w' oo (55,0) 3 1 v2 (S.places ps).length (ixs (S.H.rch (S.places ps)) (S.places ps))∧Below w.heap.size w w'∧Old w.heap.size oo:=by
 have HPl:=Lib.hid (fun (W:World)(hb:Below w.heap.size w W)=>show Calls Tryz.prog 51 #[ptr y.sb,v] W fun e w'=>∃ v',e=.returned v'∧Row w' (fo W.heap.size) (1,0) 3 1 v' (S.places ps).length ((S.places ps).map nv)∧Below W.heap.size W w' from by
  exact splaces_any (h.below hb) hk (hv.below hb) hp)
 obtain⟨vq,vl,vm,jb,_⟩:=h.blk;unfold stCells at jb;have HB:=Lib.hid h;have HK:=Lib.hid hk;have cb:w.cell? ⟨y.sb,0,none⟩=some (ptr y.l.h):=jb.cell 0;have lb:=jb.lt;have HHp:=Lib.hid (fun (W W3:World)(hb:Below w.heap.size w W)(hb3:Below W.heap.size W W3)(v':Value)(hr':Row W3 (fo W.heap.size) (1,0) 3 1 v' (S.places ps).length ((S.places ps).map nv))=>show Calls Tryz.prog 50 #[ptr y.l.h,v'] W3 fun e w'=>∃ v1 v2 oo,e=.returned (.tuple #[v1,v2,.int .i64 0])∧NdsIn w' oo v1 (S.H.cnn (S.places ps)) ∧
   Row w' oo (55,0) 3 1 v2 (S.places ps).length (ixs (S.H.rch (S.places ps)) (S.places ps))∧Below W3.heap.size W3 w'∧Old W3.heap.size oo from by
  obtain⟨vc,vo,vw,vf,f,hh⟩:=h.hp;exact hcanonV_any (hh.below (btrans hb hb3)) hk.H hh.zr hc hr' hr hn)
 clear h hk hc hv hp hr hn jb;go_enter Tryz.func15,Tryz.ntmps15;go_upto_region 3 with fail;go_region_held3 (fun w'=>w'.cell? ⟨y.sb,0,none⟩=some (ptr y.l.h)) (first|with_reducible assumption|go_keep) (first
  | (go_at_call 51;refine (HPl.out w.drew (bdrew (bsame w))).mono ?_;rintro e w3 ⟨v3,rfl,hr3,hb3⟩;have cb3:w3.cell? ⟨y.sb,0,none⟩=some (ptr y.l.h):=(hb3.cell (p:=⟨y.sb,0,none⟩) lb).trans cb)
  | (go_at_call 50;refine (HHp.out w.drew w3 (bdrew (bsame w)) hb3 v3 hr3).mono ?_;rintro e w4 ⟨v1,v2,oo,rfl,hN,hR2,hb4,hO⟩;have cb4:w4.cell? ⟨y.sb,0,none⟩=some (ptr y.l.h):=(hb4.cell (p:=⟨y.sb,0,none⟩) (Nat.lt_of_lt_of_le lb hb3.size)).trans cb3)
  | fail)
 go_wp2_with fail;go_ret3;have hb5:Below w.heap.size w w4:=btrans (btrans (bdrew (bsame w)) hb3) hb4;exact⟨v1,v2,oo,rfl,hN,hR2,hb5,fun b hb=>hO b (Nat.lt_of_lt_of_le hb hb3.size)⟩
end
end Go.Proofs.YteehgedabdchcaaGreat
namespace Go.Proofs.YteehgedabdchcaaGreat
open Hp
theorem Gc.cl {H:Hp}{L:List Nat}{A:Ag}(h:Gc H L A):H.cl:=fun p x hp q hq=>by
 unfold Hp.obj obF at hp;split at hp
 ·rename_i b hb;injection hp with hp;subst hp;exact h.cor.cp p _ hb q hq
 ·split at hp
  ·rename_i b hb;injection hp with hp;subst hp
   exact (h.cor.op p _ hb q hq).elim .inl fun k=>.inr (.inr k)
  ·cases hp
theorem okp_C {H:Hp}{l:List Nat}(h:∀ p ∈ l,H.C p):OkP (lk H.cur) l:=fun p hp=>by
 rcases h p hp with k|k
 ·exact .inl k
 ·refine .inr ?_
  cases e:lk H.cur p with
  | none=>exact absurd e k
  | some x=>rfl
def ringN:List Nd:=(List.range 4).map fun i=>⟨i+1,⟨2,2,false,false⟩,false,[(((i+1)%4:Nat):Int),-1],[10+(i:Int),0]⟩
theorem comeL_in {P:List Nat}:∀ (l:List Nat),(∀ p ∈ l,p=0∨p ∈ P)→comeL P l=P
 | [],_=>rfl
 | p::l,h=>by
  show comeL (comeTo P p) l=P;have:comeTo P p=P:=by unfold comeTo;rw[if_pos ((h p (.head _)).imp id fun k=>(here_mem P p).2 k)]
  rw[this];exact comeL_in l fun q hq=>h q (.tail _ hq)
theorem goOn_in {G:Gf}{P:List Nat}(h:∀ p ∈ P,∀ q ∈ strongG G p,q=0∨q ∈ P):∀ n i,goOn G n i P=P
 | 0,_=>rfl
 | n+1,i=>by
  unfold goOn;split
  ·rename_i hi
   rw[comeL_in _ fun q hq=>h (P.getD i 0) (by rw[List.getD_eq_getElem?_getD,List.getElem?_eq_getElem hi];exact List.getElem_mem hi) q hq]
   exact goOn_in h n (i+1)
  ·rfl
theorem canon_ring {G:Gf}{p:Nat→Nat}(N:Nat)(h0:∀ i,i<4→p i≠0)(hd:∀ i j,i<4→j<4→p i=p j→i=j)
  (hG:∀ i,i<4→∃ x,G (p i)=some x∧x.serial=i+1∧x.shp=⟨2,2,false,false⟩∧x.freed=false∧x.ptrs=[p ((i+1)%4),0]∧x.nums=[10+(i:Int),0]) :
  canonG G (reachG G N ((List.range 4).map p)) (reachG G N ((List.range 4).map p))=ringN:=by
 have e:(List.range 4).map p=[p 0,p 1,p 2,p 3]:=rfl;have d:∀ i j,i<4→j<4→i≠j→p i≠p j:=fun i j hi hj hn e=>hn (hd i j hi hj e)
 have z0:=h0 0 (by omega);have z1:=h0 1 (by omega);have z2:=h0 2 (by omega);have z3:=h0 3 (by omega)
 have a01:=d 0 1 (by omega) (by omega) (by omega);have a02:=d 0 2 (by omega) (by omega) (by omega);have a03:=d 0 3 (by omega) (by omega) (by omega)
 have a12:=d 1 2 (by omega) (by omega) (by omega);have a13:=d 1 3 (by omega) (by omega) (by omega);have a23:=d 2 3 (by omega) (by omega) (by omega)
 have hr:reachG G N ((List.range 4).map p)=[p 0,p 1,p 2,p 3]:=by
  have h1:comeL [] [p 0,p 1,p 2,p 3]=[p 0,p 1,p 2,p 3]:=by
   simp[comeL,comeTo,here,idxN,z0,z1,z2,z3,a01,a02,a03,a12,a13,a23,a01.symm,a02.symm,a03.symm,a12.symm,a13.symm,a23.symm]
  unfold reachG;rw[e,h1];refine goOn_in (fun q hq y hy=>?_) N 0
  have key:∀ i,i<4→q=p i→y=0∨y ∈ [p 0,p 1,p 2,p 3]:=fun i hi hqi=>by
   obtain⟨x,g1,_,g3,_,g5,_⟩:=hG i hi;unfold strongG at hy;rw[hqi,g1]at hy;simp only[Ob.strong,g3,g5]at hy;have hm:p ((i+1)%4) ∈ [p 0,p 1,p 2,p 3]:=by rw[←e];exact List.mem_map.2 ⟨_,List.mem_range.2 (Nat.mod_lt _ (by omega)),rfl⟩
   simp only[Bool.false_eq_true,if_false,List.mem_cons,List.not_mem_nil,or_false]at hy;rcases hy with rfl|rfl
   ·exact .inr hm
   ·exact .inl rfl
  simp only[List.mem_cons,List.not_mem_nil,or_false]at hq;rcases hq with k|k|k|k
  ·exact key 0 (by omega) k
  ·exact key 1 (by omega) k
  ·exact key 2 (by omega) k
  ·exact key 3 (by omega) k
 rw[hr];obtain⟨x0,b0,c0,d0,e0,f0,n0⟩:=hG 0 (by omega)
 obtain⟨x1,b1,c1,d1,e1,f1,n1⟩:=hG 1 (by omega)
 obtain⟨x2,b2,c2,d2,e2,f2,n2⟩:=hG 2 (by omega)
 obtain⟨x3,b3,c3,d3,e3,f3,n3⟩:=hG 3 (by omega)
 have f0:x0.ptrs=[p 1,0]:=f0;have f1:x1.ptrs=[p 2,0]:=f1;have f2:x2.ptrs=[p 3,0]:=f2;have f3:x3.ptrs=[p 0,0]:=f3;show [_,_,_,_]=[_,_,_,_];simp only[b0,b1,b2,b3];simp[Nd.of,c0,c1,c2,c3,d0,d1,d2,d3,e0,e1,e2,e3,f0,f1,f2,f3,n0,n1,n2,n3,ixOf,here,idxN,z0,z1,z2,z3,a01,a02,a03,a12,a13,a23,a01.symm,a02.symm,a03.symm,a12.symm,a13.symm,a23.symm]
theorem Sim.ring {S:Stt}{A:As}{l:List Nat}{p:Nat→Nat}(h:Sim S ⟨l,(List.range 4).map p,(List.range 4).map (·+1)⟩ A)(hA:∀ x,x<4→A.heap (x+1)=some (rgO x)):S.H.cnn ((List.range 4).map p)=ringN:=by
 have hC:∀ i,i<4→S.H.C (p i):=fun i hi=>h.ex _ (List.mem_map.2 ⟨i,List.mem_range.2 hi,rfl⟩)
 have hs:∀ i,i<4→S.H.sr (p i)=i+1:=fun i hi=>by
  have e:=h.ey;rw[show ((⟨l,(List.range 4).map p,(List.range 4).map (·+1)⟩:Cx).X).map S.H.sr=(List.range 4).map fun i=>S.H.sr (p i) from by rw[List.map_map];rfl]at e
  exact List.map_inj_left.1 (show _=(List.range 4).map (·+1) from e) i (List.mem_range.2 hi)
 have h0:∀ i,i<4→p i≠0:=fun i hi e=>by have:=hs i hi;rw[e,h.gc.sr0]at this;omega
 have hob:∀ i,i<4→∃ b,lk S.H.cur (p i)=some b∧b.serial=i+1∧b.shp=⟨2,2,false,false⟩∧b.freed=false∧b.nums=[10+(i:Int),0]∧b.ptrs.map S.H.sr=[(i+1)%4+1,0]:=fun i hi=>by
  obtain⟨b,a,h1,h2,h3,h4⟩:=h.obj (hC i hi) (h0 i hi);rw[hs i hi]at h2 h3;rw[hA i hi]at h3;injection h3 with h3;subst h3;refine⟨b,h1,h2.symm,h4.shp.symm,h4.fr.symm,h4.nums.symm,?_⟩;have h5:=h4.ptrs;rw[if_neg fun hl=>by have:=h.gc.cor.lw _ hl _ (by rw[←h2];exact hA i hi);cases this]at h5
  exact h5
 unfold Hp.cnn Hp.rch;refine canon_ring _ h0 (fun i j hi hj e=>?_) fun i hi=>?_
 ·have h1:=hs i hi;have h2:=hs j hj;rw[e]at h1;omega
 ·obtain⟨b,h1,h2,h3,h4,h5,h6⟩:=hob i hi
  have hb:S.H.obj (p i)=some b:=obF_c h1;refine⟨S.H.fixO b,by unfold Hp.vw;rw[hb];rfl,h2,h3,h4,?_,h5⟩
  show b.ptrs.map S.H.nw=_;have hcl:=h.gc.cl (p i) b hb;match hp:b.ptrs,h6 with
  | [x,y],h6 =>
   rw[hp]at hcl;have h6:[S.H.sr x,S.H.sr y]=[(i+1)%4+1,0]:=h6;injection h6 with hx h7;injection h7 with hy _;have ey:y=0:=(srF_pos h.gc.cor (hcl y (by simp))).1 hy
   have hj:(i+1)%4<4:=Nat.mod_lt _ (by omega)
   obtain⟨c,k1,k2,_⟩:=hob _ hj;have ex:S.H.nw x=p ((i+1)%4):=by
    have hx':srF (lk S.H.cur) (lko S.H.old) x=(i+1)%4+1:=hx;unfold srF at hx';split at hx'
    ·rename_i d hd
     exact h.gc.cor.inj _ _ _ _ hd (obF_c k1) (by rw[hx',k2])
    ·omega
   show [S.H.nw x,S.H.nw y]=_;rw[ex,ey,(nw_0 h.ok.H.ok).1]
  | [],h6=>simp[hp]at h6
  | [x],h6=>simp[hp]at h6
  | x::y::z::l,h6=>simp[hp]at h6
def P4 (p:Nat→Nat):List Nat:=(List.range 4).map p
theorem P4_map (g p:Nat→Nat):(P4 p).map g=P4 (fun i=>g (p i)):=by unfold P4;rw[List.map_map];rfl
def S4:List Nat:=(List.range 4).map (·+1)
def Stt.deedA (S:Stt)(i:Nat)(p:Nat→Nat)(k b a j:Nat)(f:Bool)(n:Int)(s:Shp):Res:=
 if k=0∨k=1 then S.read i (p b) j else if k=2∨k=3 then S.write i (p b) j n else if k=4 then S.put i (p b) j (p a)
 else if k=5 then (if f then S.free i (p b) else S.get i (p b) 0)
 else if k=6 then (if (S.alloc i s).e=0 then (S.alloc i s).S.put i (p b) 1 (S.alloc i s).v.toNat else S.alloc i s)
 else S.take i
structure Gx (i a h u:Nat)(S S':Stt):Prop where
 r:(S'.t i).log.reads.length≤(S.t i).log.reads.length+a
 k:(S'.t i).log.keeps.length≤(S.t i).log.keeps.length
 h:(S'.t i).log.holds.length≤(S.t i).log.holds.length+h
 u:(S'.t i).log.undos.length≤(S.t i).log.undos.length+u
section
variable {S S' S'' : Stt} {i a b h h' u u' : Nat}
theorem Gx.refl (i:Nat)(S:Stt)(a h u:Nat):Gx i a h u S S:=⟨Nat.le_add_right _ _,Nat.le_refl _,Nat.le_add_right _ _,Nat.le_add_right _ _⟩
theorem Gx.trans (x:Gx i a h u S S')(y:Gx i b h' u' S' S''):Gx i (a+b) (h+h') (u+u') S S'':=
 ⟨by have:=x.r;have:=y.r;omega,Nat.le_trans y.k x.k,by have:=x.h;have:=y.h;omega,by have:=x.u;have:=y.u;omega⟩
theorem Gx.of_txs (e:S'.txs=S.txs):Gx i a h u S S':=by
 have:S'.t i=S.t i:=by unfold Stt.t;rw[e]
 constructor<;>rw[this]<;>omega
theorem Gx.heap (i:Nat)(S:Stt)(H:Hp):Gx i 0 0 0 S { S with H:=H }:=.of_txs rfl
theorem Gx.tx {x:Tx}(h1:x.log.reads.length≤(S.t i).log.reads.length+a)(h2:x.log.keeps.length≤(S.t i).log.keeps.length)(h3:x.log.holds.length≤(S.t i).log.holds.length+h)(h4:x.log.undos.length≤(S.t i).log.undos.length+u):Gx i a h u S (S.tx i x):=by
 by_cases hi:i<S.txs.length
 ·constructor<;>rw[tx_t',if_pos hi]<;>assumption
 ·constructor<;>rw[tx_t',if_neg hi]<;>omega
theorem Gx.look (i:Nat)(S:Stt)(p:Nat):Gx i 1 0 0 S (S.lookR i p).1:=by
 unfold Stt.lookR;split
 ·exact .refl _ _ _ _ _
 ·split
  ·exact .refl _ _ _ _ _
  ·split
   ·exact .refl _ _ _ _ _
   ·exact .tx (noteL_len' _ _ _) (Nat.le_refl _) (Nat.le_refl _) (Nat.le_refl _)
theorem Gx.undo (i:Nat)(S:Stt)(u:Un):Gx i 0 0 1 S (S.undoR i u).1:=by
 unfold Stt.undoR;split
 ·exact .tx (Nat.le_refl _) (Nat.le_refl _) (Nat.le_refl _) (by simp[Tx.undo])
 ·exact .refl _ _ _ _ _
theorem Gx.holdL (i:Nat)(S:Stt)(p v:Nat):Gx i 0 1 0 S (S.holdLR i p v).1:=by
 unfold Stt.holdLR;split
 ·exact .tx (Nat.le_refl _) (Nat.le_refl _) (by simp[Tx.holding]) (Nat.le_refl _)
 ·exact .refl _ _ _ _ _
theorem Gx.own (i:Nat)(S:Stt)(p:Nat):Gx i 0 0 0 S (S.ownR i p):=Gx.heap _ _ _
theorem Gx.hold (i:Nat)(S:Stt)(p:Nat):Gx i 0 1 0 S (S.holdR i p).1:=by
 unfold Stt.holdR;split
 ·exact .refl _ _ _ _ _
 ·split
  ·exact (Gx.holdL _ _ _ _).trans (Gx.own _ _ _)
  ·exact .refl _ _ _ _ _
theorem Gx.lay (i:Nat)(S:Stt)(s:Shp):Gx i 0 1 0 S (S.layR i s).1:=by
 unfold Stt.layR;split
 ·exact .refl _ _ _ _ _
 ·split
  ·exact ((Gx.heap _ _ _).trans (Gx.holdL _ _ _ _)).trans (Gx.own _ _ _)
  ·exact .of_txs rfl
theorem Gx.chg (i:Nat)(S:Stt)(p:Nat)(u:Un)(set:Hp→Hp×Nat):Gx i 0 1 1 S (S.chg i p u set).S:=by
 unfold Stt.chg;split
 ·exact (Gx.hold _ _ _).trans (.refl _ _ 0 0 1)
 ·split
  ·exact (Gx.hold _ _ _).trans (Gx.undo _ _ _)
  ·exact ((Gx.hold _ _ _).trans (Gx.undo _ _ _)).trans (Gx.heap _ _ _)
theorem Gx.readR (i:Nat)(S:Stt)(p j:Nat):Gx i 1 1 1 S (S.readR i p j).S:=by
 unfold Stt.readR;split<;>exact (Gx.look _ _ _).trans (.refl _ _ 0 1 1)
theorem Gx.getR (i:Nat)(S:Stt)(p j:Nat):Gx i 1 1 1 S (S.getR i p j).S:=by
 unfold Stt.getR;split
 ·exact (Gx.look _ _ _).trans (.refl _ _ 0 1 1)
 ·exact ((Gx.look _ _ _).trans (Gx.heap _ _ _)).trans (.refl _ _ 0 1 1)
theorem Gx.writeR (i:Nat)(S:Stt)(p j:Nat)(v:Int):Gx i 1 1 1 S (S.writeR i p j v).S:=by
 unfold Stt.writeR;split
 ·exact (Gx.look _ _ _).trans (.refl _ _ 0 1 1)
 ·split
  ·exact (Gx.look _ _ _).trans (.refl _ _ 0 1 1)
  ·exact (Gx.look _ _ _).trans (Gx.chg _ _ _ _ _)
theorem Gx.putR (i:Nat)(S:Stt)(p j q:Nat):Gx i 1 1 1 S (S.putR i p j q).S:=by
 unfold Stt.putR;split
 ·exact .refl _ _ _ _ _
 ·unfold Stt.put1R
  split
  ·exact (Gx.look _ _ _).trans (.refl _ _ 0 1 1)
  ·split
   ·exact ((Gx.look _ _ _).trans (Gx.heap _ _ _)).trans (.refl _ _ 0 1 1)
   ·exact ((Gx.look _ _ _).trans (Gx.heap _ _ _)).trans (Gx.chg _ _ _ _ _)
theorem Gx.freeR (i:Nat)(S:Stt)(p:Nat):Gx i 1 1 1 S (S.freeR i p).S:=by
 unfold Stt.freeR;split
 ·exact (Gx.look _ _ _).trans (.refl _ _ 0 1 1)
 ·exact (Gx.look _ _ _).trans (Gx.chg _ _ _ _ _)
theorem Gx.takeR (i:Nat) (S:Stt):Gx i 1 1 1 S (S.takeR i).S:=by
 unfold Stt.takeR;split
 ·exact .refl _ _ _ _ _
 ·split
  ·exact .of_txs rfl
  ·split
   ·exact .of_txs rfl
   ·rename_i z l _ _
    have e:(({ S with holder:=i,queue:=l }:Stt).t i)=S.t i:=rfl;exact (Gx.of_txs (S:=S) (S':={ S with holder:=i,queue:=l }) (i:=i) (a:=0) (h:=0) (u:=0) rfl).trans (Gx.tx (x:=(S.t i).taking z) (a:=1) (h:=1) (u:=1) (by rw[e];exact Nat.le_add_right _ 1) (by rw[e];exact Nat.le_refl _) (by rw[e];exact Nat.le_add_right _ 1) (by rw[e];exact Nat.le_add_right _ 1))
theorem Gx.deed {R:Res}(g:Gx i a h u S R.S)(hi:i<R.S.txs.length):Gx i a h u S (S.deedR i R).S:=by
 unfold Stt.deedR;split
 ·unfold Res.fin
  split
  ·show Gx i a h u S (R.S.abort i)
   constructor<;>rw[tx_ended hi]<;>simp[Tx.ended]
  ·split<;>exact g
 ·exact .refl _ _ _ _ _
theorem Few.gx {k m j:Nat}(f:Few (S.t i) k m)(f':Few (S'.t i) j m)(g:Gx i 1 1 1 S S'):Few (S'.t i) (k+1) m:=
 ⟨by have:=f.r;have:=g.r;omega,by have:=f.kp;have:=g.k;omega,by have:=f.h;have:=g.h;omega,by have:=f.u;have:=g.u;omega,f'.mr,f'.mu⟩
end
structure Ta (S:Stt)(p:Nat→Nat)(k:Nat):Prop where
 ex:∃ A,Sim S ⟨S.lost,P4 p,S4⟩ A∧Tr A∧A.ser≤4+k
 few:Few (S.t 1) k 60
 d0:(∃ x:Tx,S.t 0=x.ended)∧Few (S.t 0) 0 60
 d1:(S.t 1).live=false→∃ x:Tx,S.t 1=x.ended
section
variable {S : Stt} {p : Nat → Nat} {k j : Nat} {A : As}
theorem Ta.len (h:Ta S p k):S.txs.length=2:=by obtain⟨A,h1,h2,_⟩:=h.ex;rw[←h1.len];exact h2.len
theorem Ta.ok (h:Ta S p k):S.ok:=by obtain⟨A,h1,_⟩:=h.ex;exact h1.ok
theorem Ta.C (h:Ta S p k){i:Nat}(hi:i<4):S.H.C (p i):=by
 obtain⟨A,h1,_⟩:=h.ex;exact h1.ex _ (List.mem_map.2 ⟨i,List.mem_range.2 hi,rfl⟩)
theorem Ta.lost (h:Ta S p k)(hk:k≤1000):S.lost.length≤1099511627776:=by
 obtain⟨A,h1,h2,h3⟩:=h.ex;have:=nodup_le S.lost (List.range (A.ser+1)) h1.gc.cor.nd fun x hx=>List.mem_range.2 (by have:=h1.gc.cor.ln x hx;have:=h1.ser;omega)
 rw[List.length_range]at this;omega
theorem Ta.mono (h:Ta S p k)(hj:k≤j):Ta S p j:=by
 obtain⟨A,h1,h2,h3⟩:=h.ex;exact⟨⟨A,h1,h2,by omega⟩,h.few.mono hj,h.d0,h.d1⟩
theorem Ta.of (h:Ta S p k){R:Res}{Q:ARes}(hq:(A.t 1).live=true→Tr Q.A)(ht:Tr A)(mv:Mv 1 S R.S)(hsm:Sim (S.deedR 1 R).S ⟨S.lost,P4 p,S4⟩ (A.deedR 1 Q).A)(hf:Few ((S.deedR 1 R).S.t 1) j 60)(hs:(A.deedR 1 Q).A.ser≤4+(k+1))(hx:Gx 1 1 1 1 S R.S):Ta (S.deedR 1 R).S p (k+1):=by
 have hi:1<S.txs.length:=by rw[h.len];omega
 have key:(S.deedR 1 R).S.lost=S.lost∧(S.deedR 1 R).S.t 0=S.t 0∧(((S.deedR 1 R).S.t 1).live=false→∃ x:Tx,(S.deedR 1 R).S.t 1=x.ended):=by
  cases hl:(S.t 1).live with
  | true =>
   rcases deed_mv mv hi hl with ⟨_,k,_⟩|⟨_,k,_⟩
   ·exact⟨k.lost,k.oth 0 (by omega),fun _=>k.x⟩
   ·exact⟨k.lost,k.oth 0 (by omega),fun e=>by rw[k.lv,hl]at e;cases e⟩
  | false =>
   have e:S.deedR 1 R=⟨S,0,140⟩:=by unfold Stt.deedR;rw[if_neg (by rw[hl];simp)]
   rw[e];exact⟨rfl,rfl,h.d1⟩
 exact⟨⟨_,by rw[key.1];exact hsm,ht.deed hq,hs⟩,h.few.gx hf (hx.deed (by rw[mv.len];exact hi)),by rw[key.2.1];exact h.d0,key.2.2⟩
theorem Ta.tw (h:Ta S p k)(hs:Sim S ⟨S.lost,P4 p,S4⟩ A)(ht:Tr A)(hj:k≤j)(hn:A.ser≤4+k){R:Res}{Q:ARes}(hw:Tw2 R ⟨S.lost,P4 p,S4⟩ Q 1 S.txs.length j 60)(hq:(A.t 1).live=true→Tr Q.A)(hh:Q.A.hld)(mv:Mv 1 S R.S)(hg:Gr (fun _=>True) 1 A Q.A)(hx:Gx 1 1 1 1 S R.S):Ta (S.deedR 1 R).S p (k+1):=by
 have hi:1<S.txs.length:=by rw[h.len];omega
 have g:=hw.deed hs hh hi (h.few.mono hj);exact h.of hq ht mv g.sim g.few (by have:=(Gr.deed (i:=1) hg).s2;omega) hx
theorem Ta.twp (h:Ta S p k)(hs:Sim S ⟨S.lost,P4 p,S4⟩ A)(ht:Tr A)(hj:k≤j)(hn:A.ser≤4+k){R:Res}{Q:ARes}(hw:Twp R ⟨S.lost,P4 p,S4⟩ Q 1 S.txs.length j 60)(hq:(A.t 1).live=true→Tr Q.A)(hh:Q.A.hld)(mv:Mv 1 S R.S)(hg:Gr (fun _=>True) 1 A Q.A)(hx:Gx 1 1 1 1 S R.S):Ta (S.deedR 1 R).S p (k+1)∧((S.deedR 1 R).e=0→∃ x:Nat,(S.deedR 1 R).v=x∧(S.deedR 1 R).S.H.C x):=by
 have hi:1<S.txs.length:=by rw[h.len];omega
 have g:=hw.deed hs hh hi (h.few.mono hj);exact⟨h.of hq ht mv g.sim g.few (by have:=(Gr.deed (i:=1) hg).s2;omega) hx,fun e=>by obtain⟨x,a,b,_⟩:=g.v e;exact⟨x,a,b⟩⟩
theorem Gr.read (A:As)(i s j:Nat):Gr (fun _=>True) 1 A (A.readR i s j).A:=by unfold As.readR;split<;>exact Gr.look 1 A i s
theorem Gr.get (A:As)(i s j:Nat):Gr (fun _=>True) 1 A (A.getR i s j).A:=by unfold As.getR;split<;>exact Gr.look 1 A i s
theorem Gr.write (A:As)(i s j:Nat)(v:Int):Gr (fun _=>True) 1 A (A.writeR i s j v).A:=by
 unfold As.writeR;split
 ·exact Gr.look 1 A i _
 ·split
  ·exact Gr.look 1 A i _
  ·exact Gr.lk (Gr.chg _ _ _ _ fun _=>rfl)
theorem Gr.put (A:As)(i s j q:Nat):Gr (fun _=>True) 1 A (A.putR i s j q).A:=by
 unfold As.putR;split
 ·exact Gr.look 1 A i _
 ·split
  ·exact Gr.look 1 A i _
  ·exact Gr.lk (Gr.chg _ _ _ _ fun _=>rfl)
theorem Gr.free (A:As)(i s:Nat):Gr (fun _=>True) 1 A (A.freeR i s).A:=by
 unfold As.freeR;split
 ·exact Gr.look 1 A i _
 ·exact Gr.lk (Gr.chg _ _ _ _ fun _=>rfl)
theorem Gr.alloc (A:As)(i:Nat)(s:Shp)(m:Bool):Gr (fun _=>True) 1 A (A.allocR i s m).A:=by
 unfold As.allocR;split
 ·exact Gr.refl _ 1 A
 ·exact Gr.lay A i trivial _
theorem Gr.take (A:As)(i:Nat):Gr (fun _=>True) 1 A (A.takeR i).A:=by unfold As.takeR;(repeat' split)<;>exact Gr.same rfl rfl rfl
theorem Ta.put (h:Ta S p k){q r:Nat}(hq:S.H.C q)(hr:S.H.C r)(i:Nat)(hk:k+1<60):Ta (S.put 1 q i r).S p (k+1):=by
 obtain⟨A,hs,ht,hn⟩:=h.ex;have hi:1<S.txs.length:=by rw[h.len];omega
 exact h.tw hs ht (by omega) hn (hs.put1 ht.hld hi hq i hr h.few (by omega)) (fun hl=>ht.put hl _ _ _) (ht.hld.put ht.i1 _ _ _).hld (Mv.putR _ _ _ _ _) (Gr.put _ _ _ _ _) (Gx.putR _ _ _ _ _)
theorem Ta.alloc (h:Ta S p k){s:Shp}(hs':s.ok)(hk:k+2<60):Ta (S.alloc 1 s).S p (k+1)∧((S.alloc 1 s).e=0→∃ x:Nat,(S.alloc 1 s).v=x∧(S.alloc 1 s).S.H.C x):=by
 obtain⟨A,hs,ht,hn⟩:=h.ex;have hi:1<S.txs.length:=by rw[h.len];omega
 exact h.twp hs ht (by omega) hn (hs.alloc hi hs' h.few (by omega)) (fun hl=>ht.alloc hl _ _) (ht.hld.alloc ht.i1 (ht.an _ (Nat.lt_succ_self _)) _ _).hld (Mv.allocR _ _ _) (Gr.alloc _ _ _ _) ((Gx.lay _ _ _).trans (.refl _ _ 1 0 1))
theorem Ta.deed (h:Ta S p k){kk b a i:Nat}{f:Bool}{n:Int}{s:Shp}(hb:b<4)(ha:a<4)(hs':s.ok)(hv:-9223372036854775808≤n∧n≤9223372036854775807)(hk:k+2<60):Ta (S.deedA 1 p kk b a i f n s).S p (k+2):=by
 obtain⟨A,hs,ht,hn⟩:=h.ex;have hi:1<S.txs.length:=by rw[h.len];omega
 have hB:=h.C hb;unfold Stt.deedA;split
 ·exact (h.tw hs ht (by omega) hn (hs.read hi hB i h.few (by omega)) (fun _=>ht.read _ _) (ht.hld.read _ _).hld (Mv.readR _ _ _ _) (Gr.read _ _ _ _) (Gx.readR _ _ _ _)).mono (by omega)
 ·split
  ·exact (h.tw hs ht (by omega) hn (hs.write ht.hld hi hB i hv h.few (by omega)) (fun hl=>ht.write hl _ _ _) (ht.hld.write ht.i1 _ _ _).hld (Mv.writeR _ _ _ _ _) (Gr.write _ _ _ _ _) (Gx.writeR _ _ _ _ _)).mono (by omega)
  ·split
   ·exact (h.put hB (h.C ha) i (by omega)).mono (by omega)
   ·split
    ·split
     ·exact (h.tw hs ht (by omega) hn (hs.free ht.hld hi hB h.few (by omega)) (fun hl=>ht.free hl _) (ht.hld.free ht.i1 _).hld (Mv.freeR _ _ _) (Gr.free _ _ _) (Gx.freeR _ _ _)).mono (by omega)
     ·exact (h.twp hs ht (by omega) hn (hs.get hi hB 0 h.few (by omega)) (fun _=>ht.get _ _) (ht.hld.get _ _).hld (Mv.getR _ _ _ _) (Gr.get _ _ _ _) (Gx.getR _ _ _ _)).1.mono (by omega)
    ·split
     ·have g:=h.alloc hs' (by omega)
      split
      ·rename_i e
       obtain⟨x,e1,e2⟩:=g.2 e;rw[e1,Int.toNat_natCast];exact g.1.put (g.1.C hb) e2 1 (by omega)
      ·exact g.1.mono (by omega)
     ·exact (h.twp hs ht (by omega) hn (hs.take hi h.few) (fun hl=>ht.take hl) (ht.hld.take ht.i1).hld (Mv.takeR _ _) (Gr.take _ _) (Gx.takeR _ _)).1.mono (by omega)
theorem ended_at' (x:Tx)(g:Nat→Nat):∃ y:Tx,x.ended.at' g=y.ended:=⟨x.ended.at' g,rfl⟩
theorem Ta.collect (h:Ta S p k) (hm:S.may (P4 p)=true):∃ q:Nat→Nat,(S.collectR (P4 p)).2=(P4 q,true)∧Ta (S.collectR (P4 p)).1 q k:=by
 obtain⟨A,hs,ht,hn⟩:=h.ex;have h2:=h.len;obtain⟨g,e,hg⟩:=Sim.collect (L:=⟨S.lost,[],[]⟩) (hs.reX (X:=[]) fun _ hp=>by cases hp) (roots:=P4 p) (fun r hr=>hs.ex r hr) hm
 have hey:(P4 p).map S.H.sr=S4:=hs.ey;rw[e];refine⟨fun i=>g (p i),by rw[P4_map],⟨A,?_,ht,hn⟩,?_,?_,fun hl=>?_⟩
 ·rw[hey,P4_map]at hg;exact hg
 ·rw[at_t _ g (show 1<(S.begun (P4 p)).txs.length from by show 1<S.txs.length;omega)];exact h.few.at' g
 ·obtain⟨⟨x,hx⟩,hf⟩:=h.d0
  rw[at_t _ g (show 0<(S.begun (P4 p)).txs.length from by show 0<S.txs.length;omega),show (S.begun (P4 p)).t 0=S.t 0 from rfl]
  exact⟨by rw[hx];exact ended_at' x g,hf.at' g⟩
 ·rw[at_t _ g (show 1<(S.begun (P4 p)).txs.length from by show 1<S.txs.length;omega),show (S.begun (P4 p)).t 1=S.t 1 from rfl]at hl ⊢
  obtain⟨x,hx⟩:=h.d1 hl;rw[hx];exact ended_at' x g
theorem Ta.step (h:Ta S p k):Ta S.stepR.1 p k:=by
 obtain⟨A,hs,ht,hn⟩:=h.ex;obtain⟨⟨ls,cs,g1,g2,_,g4⟩,g5⟩:=hs.step;have hcs:cs=[]:=by
  match cs,g4 with
  | [],_=>rfl
  | s::_,g4 =>
   obtain⟨a,k1,_,k3,k4⟩:=g4 s (.head _);exfalso;have hs0:s≠0:=fun e=>by rw[e,ht.az]at k1;cases k1
   by_cases h4:4<s
   ·rcases ht.new s a h4 k1 with k|k
    ·rw[hs.at (i:=1) (by rw[h.len];omega)]at k
     obtain⟨z,hz,e⟩:=List.mem_map.1 (show (s,0) ∈ at1 S.H.sr (S.t 1).log.holds from k);injection e with e _;exact k4 z.1 (hs.tpl (i:=1) (by rw[h.len];omega) z.1 (by unfold Tx.places Lg.roots;simp only[List.mem_append,List.mem_map];exact .inl (.inl (.inr ⟨z,hz,rfl⟩)))) e
    ·rw[k3]at k;cases k.1
   ·obtain⟨x,rfl⟩:∃ x,s=x+1:=⟨s-1,by omega⟩
    have e:=hs.ey;rw[show ((⟨S.lost,P4 p,S4⟩:Cx).X).map S.H.sr=(List.range 4).map fun i=>S.H.sr (p i) from by show (P4 p).map _=_;rw[P4_map];rfl]at e
    exact k4 (p x) (h.C (by omega)) (List.map_inj_left.1 (show _=(List.range 4).map (·+1) from e) x (List.mem_range.2 (by omega)))
 subst hcs;have et:∀ i,S.stepR.1.t i=S.t i:=fun i=>by unfold Stt.t;rw[g5]
 exact⟨⟨A,by rw[g2];exact g1,ht,hn⟩,by rw[et];exact h.few,by rw[et];exact h.d0,by rw[et];exact h.d1⟩
theorem ended_pl {S:Stt}(h2:S.txs.length=2)(h0:∃ x:Tx,S.t 0=x.ended)(h1:∃ x:Tx,S.t 1=x.ended)(hq:S.queue=[])(r:List Nat):S.places r=r:=by
 obtain⟨x,h0⟩:=h0;obtain⟨y,h1⟩:=h1;have e:S.txs=[S.t 0,S.t 1]:=by
  match ht:S.txs,h2 with
  | [a,b],_=>unfold Stt.t;rw[ht];rfl
 unfold Stt.places;rw[hq,e,h0,h1];simp[ended_places]
structure Te (S:Stt)(p:Nat→Nat):Prop where
 ex:∃ A,Sim S ⟨S.lost,P4 p,S4⟩ A∧(∀ x,x<4→A.heap (x+1)=some (rgO x))∧A.hld∧A.now=1∧A.most=1073741824∧A.holder=-1∧(A.t 0).holds=[]
 len:S.txs.length=2
 d0:∃ x:Tx,S.t 0=x.ended
 d1:∃ x:Tx,S.t 1=x.ended
 few:Few (S.t 0) 0 60
theorem Ta.end (h:Ta S p k):Te (S.abortR 1).1 p∧(S.abortR 1).1.queue=[]:=by
 obtain⟨A,hs,ht,hn⟩:=h.ex;have hi:1<S.txs.length:=by rw[h.len];omega
 have hqu:∀ {S':Stt}{L:Cx}{A':As},Sim S' L A'→A'.queue=[]→S'.queue=[]:=fun hs' hq=>by
  have:=hs'.qu;rw[hq]at this;exact List.map_eq_nil_iff.1 this.symm
 unfold Stt.abortR
 cases hl:(S.t 1).live with
 | true =>
  rw[if_pos rfl];obtain⟨g1,g2,g3⟩:=hs.abort ht.hld hi h.few;obtain⟨k1,k2⟩:=ht.abort;have hx:∃ x:Tx,(S.abort 1).t 1=x.ended:=⟨_,tx_ended hi⟩;have e:=Ed.abort hi;refine⟨⟨⟨_,by rw[e.lost];exact g1,fun x hx=>k1.ring k2 hx,k1.hld,k1.now,k1.most,(k1.dead k2).2.2,k1.h0⟩,by rw[g3];exact h.len,by rw[e.oth 0 (by omega)];exact h.d0.1,hx,by rw[e.oth 0 (by omega)];exact h.d0.2⟩,hqu g1 k1.q⟩
 | false =>
  rw[if_neg (by simp)]
  have hl':(A.t 1).live=false:=by rw[hs.at hi];exact hl
  exact⟨⟨⟨A,hs,fun x hx=>ht.ring hl' hx,ht.hld,ht.now,ht.most,(ht.dead hl').2.2,ht.h0⟩,h.len,h.d0.1,h.d1 hl,h.d0.2⟩,hqu hs ht.q⟩
end
end Go.Proofs.YteehgedabdchcaaGreat
