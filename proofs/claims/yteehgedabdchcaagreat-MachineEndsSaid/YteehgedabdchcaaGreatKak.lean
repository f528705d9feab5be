import Derived.Test.YteehgedabdchcaaGreatKaj
import Derived.Test.YteehgedabdchcaaGreatKbm
set_option linter.all false
set_option maxRecDepth 1000000
set_option maxHeartbeats 16000000
open Go renaming World->Aa,Calls->Ab,Value->Ac
open Go.RowKit renaming Below->Ae
open Go.Value renaming int->I,pointer->Ag,slice->Ah,tuple->Aj,agg->Ak
open Go.IntKind renaming i64->Z
open Go.Ending renaming returned->O
namespace Go.Proofs.YteehgedabdchcaaGreat
section
open Go.RowKit Go.Lib Go.Shelf Hp
def Wc:Go.Shelf.Ren:=⟨fun|41=>139|n=>n,fun|22=>126|23=>131|4=>4|n=>n,fun|n=>n⟩
theorem bm:Go.Proofs.SlLaysE0.n41 Tryz.prog Wc:={
 mixed:=by kernel_rfl
 f41:=⟨Tryz.f139.name,by decide,Tryz.func139.trans (congrArg some (by kernel_rfl))⟩
 t4:=Tryz.underlying4
 a4:=Tryz.isAgg4
 z4:=Tryz.sizeOf4
 v4:=Tryz.zeroValue4
 t22:=Tryz.underlying126
 a22:=Tryz.isAgg126
 z22:=Tryz.sizeOf126
 v22:=Tryz.zeroValue126 }
def Y9:Go.Shelf.Ren:=⟨fun|41=>200|n=>n,fun|22=>212|23=>175|4=>4|n=>n,fun|n=>n⟩
theorem bj:Go.Proofs.SlLaysE0.n41 Tryz.prog Y9:={
 mixed:=by kernel_rfl
 f41:=⟨Tryz.f200.name,by decide,Tryz.func200.trans (congrArg some (by kernel_rfl))⟩
 t4:=Tryz.underlying4
 a4:=Tryz.isAgg4
 z4:=Tryz.sizeOf4
 v4:=Tryz.zeroValue4
 t22:=Tryz.underlying212
 a22:=Tryz.isAgg212
 z22:=Tryz.sizeOf212
 v22:=Tryz.zeroValue212 }
theorem info_parts {t:TypeId}{z:Ac}{s b:Nat}(h:((Tryz.prog.info? t).map fun i=>(i.zero,i.size,i.bytes))=some (some z,s,b)):∃ i,Tryz.prog.info? t=some i/\i.size=s/\i.bytes=b/\i.zero=some z:=by
 obtain⟨i,hi,he⟩:=Option.map_eq_some_iff.1 h;injection he with e1 e2;injection e2 with e2 e3;exact⟨i,hi,e2,e3,e1⟩
theorem Ux:∃ i,Tryz.prog.info? 131=some i/\i.size=2/\i.bytes=16/\i.zero=some (Ak #[I Z 0,I Z 0]):=info_parts (by kernel_rfl)
theorem VB:∃ i,Tryz.prog.info? 175=some i/\i.size=4/\i.bytes=32/\i.zero=some (Ak #[I Z 0,I Z 0,I Z 0,I Z 0]):=info_parts (by kernel_rfl)
theorem ft {w w':Aa}{o:Own}{t:Tag}{e:TypeId}{size n:Nat}{v:Ac}{xs:List Ac}(h:w'.ownsRow w.heap.size e size v n xs):Row w' (ext o w.heap.size t) t e size v n xs:=by
 refine⟨⟨h.1,?_⟩,fun k hk=>?_⟩
 ·rcases h.2 with hv|⟨g,cap,cur,hv,hb,hg⟩
  ·exact .inl hv
  ·exact .inr ⟨g,cap,cur,hv,Nat.zero_le _,hg⟩
 ·rcases h.2 with ⟨rfl,_⟩|⟨g,cap,cur,rfl,hb,hg⟩
  ·simp[Value.ownBlock]at hk
  ·have:g=k:=by simpa [Value.ownBlock] using hk
   subst this;exact qp hb
section
variable {w : Aa} {o : Own} {t : Tag} {v : Ac} {n : Nat} {xs : List Ac}
theorem Xk (h:Row w o t 131 2 v n xs)(hn:n<=100000)(h1:∀ u ∈ xs,u.oneCell'=true)(tg:Tag) :
  Ab Tryz.prog 139 #[v] w fun e w'=>∃ v',e=O v'/\Row w' (ext o w.heap.size tg) tg 131 2 v' n xs/\Ae w.heap.size w w':=by
 obtain⟨i,hi,hs,hb,hz⟩:=Ux;rcases h.own.2 with⟨rfl,rfl⟩|⟨g,cap,cur,rfl,_⟩
 ·have hx:xs=[]:=List.eq_nil_of_length_eq_zero (by simpa using h.len)
  subst hx;refine (AnyE.slices_Clone_nil bm 0 0 w).mono ?_
  rintro e w'⟨rfl,rfl⟩
  exact⟨_,rfl,Row.nil _ _ _ _ _,qc _⟩
 ·refine (AnyE.slices_Clone bm i _ 2 16 hi hz hs hb rfl (by decide) Tryz.sizeOf131 g 0 n cap xs w h.len (by simp only[maxLen];omega) (by omega) (fun j u hu=>?_) h1).mono ?_
  ·have:=h.own.cells (g:=g) rfl j u hu
   rw[Nat.zero_add];rwa [show (⟨g,0,none⟩:Addr).add j=⟨g,j,none⟩ from by unfold Addr.add;split<;>simp_all]at this
  ·rintro e w'⟨v',rfl,ho,_,hb⟩
   exact⟨v',rfl,ft ho,hb⟩
theorem Ym (h:Row w o t 175 4 v n xs)(hn:n<=100000)(h1:∀ u ∈ xs,u.oneCell'=true)(tg:Tag) :
  Ab Tryz.prog 200 #[v] w fun e w'=>∃ v',e=O v'/\Row w' (ext o w.heap.size tg) tg 175 4 v' n xs/\Ae w.heap.size w w':=by
 obtain⟨i,hi,hs,hb,hz⟩:=VB;rcases h.own.2 with⟨rfl,rfl⟩|⟨g,cap,cur,rfl,_⟩
 ·have hx:xs=[]:=List.eq_nil_of_length_eq_zero (by simpa using h.len)
  subst hx;refine (AnyE.slices_Clone_nil bj 0 0 w).mono ?_
  rintro e w'⟨rfl,rfl⟩
  exact⟨_,rfl,Row.nil _ _ _ _ _,qc _⟩
 ·refine (AnyE.slices_Clone bj i _ 4 32 hi hz hs hb rfl (by decide) Tryz.sizeOf175 g 0 n cap xs w h.len (by simp only[maxLen];omega) (by omega) (fun j u hu=>?_) h1).mono ?_
  ·have:=h.own.cells (g:=g) rfl j u hu
   rw[Nat.zero_add];rwa [show (⟨g,0,none⟩:Addr).add j=⟨g,j,none⟩ from by unfold Addr.add;split<;>simp_all]at this
  ·rintro e w'⟨v',rfl,ho,_,hb⟩
   exact⟨v',rfl,ft ho,hb⟩
theorem RH (h:Row w o t 3 1 v n xs)(hn:n<=100000)(h1:∀ u ∈ xs,u.oneCell'=true)(tg:Tag) :
  Ab Tryz.prog 63 #[v] w fun e w'=>∃ v',e=O v'/\Row w' (ext o w.heap.size tg) tg 3 1 v' n xs/\Ae w.heap.size w w':=by
 obtain⟨i,hi,hs,hb,hz⟩:=zi;rcases h.own.2 with⟨rfl,rfl⟩|⟨g,cap,cur,rfl,_⟩
 ·have hx:xs=[]:=List.eq_nil_of_length_eq_zero (by simpa using h.len)
  subst hx;refine (Tryz.slices_Clone_nil 0 0 w).mono ?_
  rintro e w'⟨rfl,rfl⟩
  exact⟨_,rfl,Row.nil _ _ _ _ _,qc _⟩
 ·refine (Tryz.slices_Clone i _ 1 8 hi hz hs hb rfl (by decide) Tryz.sizeOf3 g 0 n cap xs w h.len (by simp only[maxLen];omega) (by omega) (fun j u hu=>?_) h1).mono ?_
  ·have:=h.own.cells (g:=g) rfl j u hu
   rw[Nat.zero_add];rwa [show (⟨g,0,none⟩:Addr).add j=⟨g,j,none⟩ from by unfold Addr.add;split<;>simp_all]at this
  ·rintro e w'⟨v',rfl,ho,_,hb⟩
   exact⟨v',rfl,ft ho,hb⟩
theorem gd (ps:List Nat)(h:Row w o t 3 1 v ps.length (ps.map nv))(hl:ps.length<=100000)(x:Nat)(z:Int)(hz:z=x) :
  Ab Tryz.prog 270 #[v,I Z z] w fun e w'=>e=O (.bool (decide (x ∈ ps)))/\w=w':=by
 subst hz;rcases h.form with⟨rfl,h0⟩|⟨g,cap,rfl,hn,hc,_,_⟩
 ·have:ps=[]:=List.eq_nil_of_length_eq_zero h0
  subst this;refine (Tryz.slices_Contains_int_empty none 0 x w).mono ?_
  rintro e w'⟨rfl,rfl⟩
  exact⟨by simp,rfl⟩
 ·refine (Tryz.slices_Contains_int g 0 ps.length cap (ps.map fun (p:Nat)=>(p:Int)) x w (by simp) (by omega) ?_).mono ?_
  ·intro j hj
   have hj':j<ps.length:=by simpa using hj
   rw[Nat.zero_add];refine h.cells j _ ?_;rw[Qj,Qb hj'];simp[nv,List.getD,Qb hj']
  ·rintro e w'⟨rfl,rfl⟩
   rw[List.take_of_length_le (by simp)]
   refine⟨?_,rfl⟩;have e:((ps.map fun (p:Nat)=>(p:Int)).contains (x:Int))=decide (x ∈ ps):=by
    rw[Bool.eq_iff_iff];simp only[List.contains_eq_mem,Qt,decide_eq_true_eq];exact⟨fun⟨a,ha,e⟩=>by rw[show x=a by omega];exact ha,fun h=>⟨x,h,rfl⟩⟩
   rw[e]
end
end
section
open Go.RowKit Hp
attribute [local go_sem ↓] Go.wp_at_zero Go.wp_at_succ
structure Un where
 kind:Nat
 pos:Nat
 i:Nat
 old:Int
structure Lg where
 mr:Nat
 mu:Nat
 reads:List Nat
 keeps:List Nat
 holds:List (Nat×Nat)
 Au:List Un
structure Lg.ok (L:Lg):Prop where
 mr:L.mr<=200
 mu:L.mu<=200
 r:L.reads.length<=L.mr
 k:L.keeps.length<=L.mr
 h:L.holds.length<=L.mu
 u:L.Au.length<=L.mu
def qg:List (Nat×Nat)->List Ac
 | []=>[]
 | x::l=>nv x.1::nv x.2::qg l
def qz:List Un->List Ac
 | []=>[]
 | x::l=>nv x.kind::nv x.pos::nv x.i::I Z x.old::qz l
theorem gi (l:List (Nat×Nat))(x:Nat×Nat):qg (l++[x])=qg l++[nv x.1,nv x.2]:=by
 induction l with
 | nil=>rfl
 | cons y l ih=>simp[qg,ih]
theorem qhm (l:List Un)(x:Un):qz (l++[x])=qz l++[nv x.kind,nv x.pos,nv x.i,I Z x.old]:=by
 induction l with
 | nil=>rfl
 | cons y l ih=>simp[qz,ih]
theorem yn (l:List (Nat×Nat)):∀ u ∈ qg l,u.oneCell'=true:=by
 induction l with
 | nil=>intro u hu;simp[qg]at hu
 | cons y l ih =>
  intro u hu;simp only[qg,List.mem_cons]at hu;rcases hu with rfl|rfl|hu
  ·rfl
  ·rfl
  ·exact ih u hu
theorem Tg (l:List Un):∀ u ∈ qz l,u.oneCell'=true:=by
 induction l with
 | nil=>intro u hu;simp[qz]at hu
 | cons y l ih =>
  intro u hu;simp only[qz,List.mem_cons]at hu;rcases hu with rfl|rfl|rfl|rfl|hu
  ·rfl
  ·rfl
  ·rfl
  ·rfl
  ·exact ih u hu
theorem Ls (l:List Nat):∀ u ∈ l.map nv,u.oneCell'=true:=by
 intro u hu;obtain⟨x,_,rfl⟩:=Qt.1 hu;rfl
theorem yh (l:List (Nat×Nat))(i:Nat)(x:Nat×Nat)(h:l[i]?=some x):(qg l)[2*i]?=some (nv x.1)/\(qg l)[2*i+1]?=some (nv x.2):=by
 induction l generalizing i with
 | nil=>simp at h
 | cons y l ih =>
  cases i with
  | zero=>simp at h;subst h;simp[qg]
  | succ i =>
   simp at h;have:=ih i h;rw[show 2*(i+1)=2*i+2 from by omega]
   simpa [qg] using this
theorem Vv (l:List Un)(i:Nat)(x:Un)(h:l[i]?=some x):(qz l)[4*i]?=some (nv x.kind)/\(qz l)[4*i+1]?=some (nv x.pos)/\(qz l)[4*i+2]?=some (nv x.i)/\(qz l)[4*i+3]?=some (I Z x.old):=by
 induction l generalizing i with
 | nil=>simp at h
 | cons y l ih =>
  cases i with
  | zero=>simp at h;subst h;simp[qz]
  | succ i =>
   simp at h;have:=ih i h;rw[show 4*(i+1)=4*i+4 from by omega]
   simpa [qz] using this
structure Bq (w:Aa)(o:Own)(id k b:Nat)(L:Lg)(vr vk vh vu:Ac):Prop where
 AU:Am w b #[I Z L.mr,I Z L.mu,vr,vk,vh,vu] 219
 rr:Row w o (id,k+1) 3 1 vr L.reads.length (L.reads.map nv)
 rk:Row w o (id,k+2) 3 1 vk L.keeps.length (L.keeps.map nv)
 rh:Row w o (id,k+3) 131 2 vh L.holds.length (qg L.holds)
 ru:Row w o (id,k+4) 175 4 vu L.Au.length (qz L.Au)
 ob:o b=(id,k)
theorem Bq.below {w w':Aa}{o:Own}{id k b:Nat}{L:Lg}{vr vk vh vu:Ac}(h:Bq w o id k b L vr vk vh vu)(hb:Ae w.heap.size w w'):Bq w' o id k b L vr vk vh vu:=
 ⟨h.AU.below hb h.AU.lt,h.rr.below hb,h.rk.below hb,h.rh.below hb,h.ru.below hb,h.ob⟩
theorem Bq.Ao {T:Tag->Prop}{w w':Aa}{o o':Own}{id k b:Nat}{L:Lg}{vr vk vh vu:Ac}(h:Bq w o id k b L vr vk vh vu)(hs:Stp T o o' w w')(hn:∀ j,j<=4->¬T (id,k+j)):Bq w' o' id k b L vr vk vh vu:=
 ⟨h.AU.Ao hs (by rw[h.ob];exact hn 0 (by omega)),h.rr.Ao hs (hn 1 (by omega)),h.rk.Ao hs (hn 2 (by omega)),h.rh.Ao hs (hn 3 (by omega)),h.ru.Ao hs (hn 4 (by omega)),(hs.tags _ h.AU.lt).trans h.ob⟩
section
variable {w : Aa} {o : Own} {t0 tg : Tag} {b k : Nat} {cs : Array Ac} {v : Ac} {ps : List Nat}
theorem Ko (hb:Am w b cs 219)(hv:cs[k]?=some v)(hr:Row w o tg 3 1 v ps.length (ps.map nv))(hl:ps.length<=4096)(p m:Nat)(hp:p ∈ ps) :
  Ab Tryz.prog 238 #[Ag (some ⟨b,k,none⟩),I Z p,I Z m] w fun e w'=>e=O (.bool true)/\w=w':=by
 have HC:=Qa (gd ps hr (by omega) p p rfl)
 rw[decide_eq_true hp]at HC;have c:w.cell? ⟨b,k,none⟩=some v:=by rw[hb.cell];exact hv
 clear hb hv hr hp hl;go_enter Tryz.func238,Tryz.ntmps238;go_wp2_with fail;refine HC.out.mono ?_
 rintro e w1 ⟨rfl,rfl⟩
 go_wp2_with fail;go_ret;exact⟨rfl,rfl⟩
theorem XW (hb:Am w b cs 219)(hv:cs[k]?=some v)(hr:Row w o tg 3 1 v ps.length (ps.map nv))(hl:ps.length<=4096)(p m:Nat)(hp:p ∉ ps)(hm:m<=ps.length) :
  Ab Tryz.prog 238 #[Ag (some ⟨b,k,none⟩),I Z p,I Z m] w fun e w'=>e=O (.bool false)/\w=w':=by
 have HC:=Qa (gd ps hr (by omega) p p rfl)
 rw[decide_eq_false hp]at HC;have c:w.cell? ⟨b,k,none⟩=some v:=by rw[hb.cell];exact hv
 obtain⟨pa,cp,rfl⟩:=hr.AY;have hng:(m:Int)<=(ps.length:Int):=by omega
 clear hb hv hr hp hl;go_enter Tryz.func238,Tryz.ntmps238;go_wp2_with fail;refine HC.out.mono ?_
 rintro e w1 ⟨rfl,rfl⟩
 go_wp2_with fail;go_ret;exact⟨rfl,rfl⟩
theorem Jm (hb:Am w b cs 219) (hv:cs[k]?=some v) (hr:Row w o tg 3 1 v ps.length (ps.map nv)) (hl:ps.length<=4096) (p m:Nat) (hp:p ∉ ps) (hm:ps.length<m) (ht:o b=t0) (hne:t0≠tg) :
  Ab Tryz.prog 238 #[Ag (some ⟨b,k,none⟩),I Z p,I Z m] w fun e w'=>e=O (.bool true) /\
   ∃ v' o',Am w' b (cs.setIfInBounds k v') 219/\Row w' o' tg 3 1 v' (ps++[p]).length ((ps++[p]).map nv)/\Stp (fun t=>t=t0\/t=tg) o o' w w':=by
 have HC:=Qa (gd ps hr (by omega) p p rfl)
 rw[decide_eq_false hp]at HC;have c:w.cell? ⟨b,k,none⟩=some v:=by rw[hb.cell];exact hv
 have s:=hb.lt;have z:=hb.free k;have hng:(ps.length:Int)<(m:Int):=by omega
 obtain⟨iI,hi,hsI,hyI,hzI⟩:=zi;have hu64:=Tryz.underlying25;have hw:=Qa (MU hl);obtain⟨pa0,cp0,rfl⟩:=hr.AY;clear hm hl;go_enter Tryz.func238,Tryz.ntmps238;go_wp2_with fail;refine HC.out.mono ?_
 rintro e w1 ⟨rfl,rfl⟩
 go_wp2_with (first|(at_builtin;refine qf _ rfl _ _ _ rfl 3 iI _ 1 8 hu64 hi hzI hsI hyI rfl (by decide) o tg _ _ _ rfl (Row.below hr (qa (qc w) _)) ⟨w.heap.size,0,none⟩ 1 1 [I Z p] rfl rfl (qx (Am.new w _ _)) zw hw.out.1 hw.out.2 ?_;intro v' w8 hown hst;obtain⟨pa,cp,rfl⟩:=hown.AY;have j8:=(hb.alloc (.cells #[I Z p] 3)).Ao hst (by rw[ht];exact hne);have c8:w8.cell? ⟨b,k,none⟩=some (.slice pa0 ps.length cp0):=(by rw[j8.cell];exact hv);have z8:=j8.free k;have s8:=j8.lt)|fail)
 go_ret;have k8:=Stp.setCell (T:=fun t=>t=t0) (Stp.refl _ (ext o (w.alloc (.cells #[I Z p] 3)).heap.size tg) w8) (a:=⟨b,k,none⟩) (by show ext o _ _ b=_;rw[qj (hb.alloc (.cells #[I Z p] 3)).lt];exact ht) (.slice pa (ps.length+1) cp)
 refine⟨rfl,_,_,j8.set k _,?_,(((Stp.of_below (T:=fun t=>t=tg) (qa (qc w) (.cells #[I Z p] 3))).trans hst).mono fun _ e=>Or.inr e).trans (k8.mono fun _ e=>Or.inl e)⟩
 simpa [nv] using hown.Ao k8 (fun e=>hne e.symm)
end
def yk (l:List Nat)(p m:Nat):List Nat:=if p ∈ l then l else if l.length<m then l++[p] else l
def wv (l:List Nat)(p m:Nat):Bool:=decide (p ∈ l\/l.length<m)
section
variable {w : Aa} {o : Own} {id k b : Nat} {L : Lg} {vr vk vh vu : Ac}
theorem Uz (cs:Array Ac)(j:Nat)(v:Ac)(ps:List Nat)(t0 tg:Tag)(hb:Am w b cs 219)(hv:cs[j]?=some v)(hr:Row w o tg 3 1 v ps.length (ps.map nv))(hl:ps.length<=4096)(p m:Nat)(ht:o b=t0)(hne:t0≠tg) :
  Ab Tryz.prog 238 #[Ag (some ⟨b,j,none⟩),I Z p,I Z m] w fun e w'=>e=O (.bool (wv ps p m)) /\
   ∃ v' o',Am w' b (cs.setIfInBounds j v') 219/\Row w' o' tg 3 1 v' (yk ps p m).length ((yk ps p m).map nv)/\Stp (fun t=>t=t0\/t=tg) o o' w w':=by
 have hcs:(cs.setIfInBounds j v)=cs:=by
  apply Array.ext_getElem?;intro i;rw[Array.getElem?_setIfInBounds];split
  ·rename_i e;subst e
   split
   ·exact hv.symm
   ·rename_i e2;rw[Array.getElem?_eq_none (by omega)]
  ·rfl
 unfold wv yk;by_cases hp:p ∈ ps
 ·rw[if_pos hp,decide_eq_true (Or.inl hp)]
  refine (Ko hb hv hr hl p m hp).mono ?_
  rintro e w' ⟨rfl,rfl⟩
  exact⟨rfl,v,o,by rw[hcs];exact hb,hr,Stp.refl _ _ _⟩
 ·rw[if_neg hp]
  by_cases hm:ps.length<m
  ·rw[if_pos hm,decide_eq_true (Or.inr hm)]
   exact Jm hb hv hr hl p m hp hm ht hne
  ·rw[if_neg hm,decide_eq_false (fun e=>e.elim hp hm)]
   refine (XW hb hv hr hl p m hp (by omega)).mono ?_
   rintro e w' ⟨rfl,rfl⟩
   exact⟨rfl,v,o,by rw[hcs];exact hb,hr,Stp.refl _ _ _⟩
theorem Hw (h:Bq w o id k b L vr vk vh vu) (hk:L.ok) (p:Nat) :
  Ab Tryz.prog 183 #[Ag (some ⟨b,0,none⟩),I Z p] w fun e w'=>e=O (.bool (wv L.reads p L.mr)) /\
   ∃ vr' o',Bq w' o' id k b { L with reads:=yk L.reads p L.mr } vr' vk vh vu/\Stp (fun t=>t=(id,k)\/t=(id,k+1)) o o' w w':=by
 have HN:=Qa (Uz (w:=w.drew) _ 2 _ L.reads (id,k) (id,k+1) (qi h.AU) rfl (h.rr.below (qe (qc w))) (by have:=hk.r;have:=hk.mr;omega) p L.mr h.ob (by simp))
 have HI:=Qa h;have c:=h.AU.cell;generalize wv L.reads p L.mr=bb at *;clear h hk;go_enter Tryz.func183,Tryz.ntmps183;go_upto_region 1 with fail;go_still_tail 11,(by kernel_rfl)
 change wpList _ _ _ _ _ w.drew;go_wp2_with fail;refine HN.out.mono ?_
 rintro e w1 ⟨rfl,v',o',hb,hr,hs⟩
 go_wp2_with fail;go_ret;have hs':Stp (fun t=>t=(id,k)\/t=(id,k+1)) o o' w w1:=(Stp.of_below (qe (qc w))).trans hs
 have h:=HI.out;exact⟨rfl,v',o',⟨hb,hr,h.rk.Ao hs' (by simp),h.rh.Ao hs' (by simp),h.ru.Ao hs' (by simp),(hs'.tags _ h.AU.lt).trans h.ob⟩,hs'⟩
theorem Jg (h:Bq w o id k b L vr vk vh vu) (hk:L.ok) (p:Nat) :
  Ab Tryz.prog 261 #[Ag (some ⟨b,0,none⟩),I Z p] w fun e w'=>e=O (.bool (wv L.keeps p L.mr)) /\
   ∃ vk' o',Bq w' o' id k b { L with keeps:=yk L.keeps p L.mr } vr vk' vh vu/\Stp (fun t=>t=(id,k)\/t=(id,k+2)) o o' w w':=by
 have HN:=Qa (Uz (w:=w.drew) _ 3 _ L.keeps (id,k) (id,k+2) (qi h.AU) rfl (h.rk.below (qe (qc w))) (by have:=hk.k;have:=hk.mr;omega) p L.mr h.ob (by simp))
 have HI:=Qa h;have c:=h.AU.cell;generalize wv L.keeps p L.mr=bb at *;clear h hk;go_enter Tryz.func261,Tryz.ntmps261;go_upto_region 1 with fail;go_still_tail 11,(by kernel_rfl)
 change wpList _ _ _ _ _ w.drew;go_wp2_with fail;refine HN.out.mono ?_
 rintro e w1 ⟨rfl,v',o',hb,hr,hs⟩
 go_wp2_with fail;go_ret;have hs':Stp (fun t=>t=(id,k)\/t=(id,k+2)) o o' w w1:=(Stp.of_below (qe (qc w))).trans hs
 have h:=HI.out;exact⟨rfl,v',o',⟨hb,h.rr.Ao hs' (by simp),hr,h.rh.Ao hs' (by simp),h.ru.Ao hs' (by simp),(hs'.tags _ h.AU.lt).trans h.ob⟩,hs'⟩
theorem WI (h:Bq w o id k b L vr vk vh vu)(hk:L.ok)(tg:Tag) :
  Ab Tryz.prog 81 #[Ag (some ⟨b,0,none⟩)] w fun e w'=>∃ v',e=O v'/\Row w' (ext o w.heap.size tg) tg 3 1 v' L.reads.length (L.reads.map nv)/\Ae w.heap.size w w':=by
 have HN:=Qa (RH h.rr (by have:=hk.r;have:=hk.mr;omega) (Ls _) tg)
 have c:=h.AU.cell;clear h hk;go_enter Tryz.func81,Tryz.ntmps81;go_wp2_with fail;refine HN.out.mono ?_
 rintro e w1 ⟨v',rfl,hr,hb⟩
 go_wp2_with fail;go_ret;exact⟨_,rfl,hr,hb⟩
theorem SN (h:Bq w o id k b L vr vk vh vu)(hk:L.ok)(tg:Tag) :
  Ab Tryz.prog 79 #[Ag (some ⟨b,0,none⟩)] w fun e w'=>∃ v',e=O v'/\Row w' (ext o w.heap.size tg) tg 131 2 v' L.holds.length (qg L.holds)/\Ae w.heap.size w w':=by
 have HN:=Qa (Xk h.rh (by have:=hk.h;have:=hk.mu;omega) (yn _) tg)
 have c:=h.AU.cell;clear h hk;go_enter Tryz.func79,Tryz.ntmps79;go_wp2_with fail;refine HN.out.mono ?_
 rintro e w1 ⟨v',rfl,hr,hb⟩
 go_wp2_with fail;go_ret;exact⟨_,rfl,hr,hb⟩
theorem Xf (h:Bq w o id k b L vr vk vh vu)(hk:L.ok)(tg:Tag) :
  Ab Tryz.prog 133 #[Ag (some ⟨b,0,none⟩)] w fun e w'=>∃ v',e=O v'/\Row w' (ext o w.heap.size tg) tg 175 4 v' L.Au.length (qz L.Au)/\Ae w.heap.size w w':=by
 have HN:=Qa (Ym h.ru (by have:=hk.u;have:=hk.mu;omega) (Tg _) tg)
 have c:=h.AU.cell;clear h hk;go_enter Tryz.func133,Tryz.ntmps133;go_wp2_with fail;refine HN.out.mono ?_
 rintro e w1 ⟨v',rfl,hr,hb⟩
 go_wp2_with fail;go_ret;exact⟨_,rfl,hr,hb⟩
theorem Yx (h:Bq w o id k b L vr vk vh vu) :
  Ab Tryz.prog 140 #[Ag (some ⟨b,0,none⟩)] w fun e w'=>e=O (Aj #[])/\Bq w' o id k b { L with reads:=[],keeps:=[],holds:=[],Au:=[] } (Ah none 0 0) (Ah none 0 0) (Ah none 0 0) (Ah none 0 0)/\Stp (fun t=>t=(id,k)) o o w w':=by
 have HI:=Qa h;have j:=h.AU;have c:=h.AU.cell;have z:=h.AU.free;have s:=h.AU.lt;clear h;go_enter Tryz.func140,Tryz.ntmps140;go_wp2_with fail;go_end0;have hob:=HI.out.ob;refine⟨rfl,⟨(((j.set 2 _).set 3 _).set 4 _).set 5 _,Row.nil _ _ _ _ _,Row.nil _ _ _ _ _,Row.nil _ _ _ _ _,Row.nil _ _ _ _ _,hob⟩,?_⟩;exact ((((Stp.refl _ o w).setCell (by simpa using hob) _).setCell (by simpa using hob) _).setCell (by simpa using hob) _).setCell (by simpa using hob) _
end
end
section
open Go.RowKit Hp
structure Tx where
 live:Bool
 start:Nat
 seen:Nat
 log:Lg
 AX:List (Nat×Nat)
structure Al where
 H:Hp
 ph:Nat
 now:Nat
 most:Nat
 Aw:List Tx
 queue:List (Nat×Nat)
 next:Nat
 Av:Int
 version:Nat
 lost:List Nat
 came:List Nat
def js (l:List Tx):Nat:=(l.filter (·.live)).length
def kq:List Tx->Nat
 | []=>0
 | x::l=>x.AX.length+kq l
def yi (v:Nat):Prop:=v%2=1->v/2<8
structure Lg.fit (L:Lg):Prop where
 ok:L.ok
 hv:∀ z ∈ L.holds,z.2<=1099511627776
 un:∀ u ∈ L.Au,-9223372036854775808<=u.old/\u.old<=9223372036854775807
 kd:∀ u ∈ L.Au,u.kind=1->0<=u.old
structure Al.ok (S:Al):Prop where
 H:S.H.wf
 n2:S.most<=1099511627776
 lv:S.now+js S.Aw<=S.most
 t1:1<=S.Aw.length
 t8:S.Aw.length<=8
 lg:∀ x ∈ S.Aw,x.log.fit
 st:∀ x ∈ S.Aw,x.start<=S.now
 ve:S.version<=S.now
 ho:-1<=S.Av/\S.Av<=8
 sc:∀ x ∈ S.H.cur,yi x.2.second
 so:∀ x ∈ S.H.old,yi x.2.1.second
 qu:S.queue.length+kq S.Aw<=S.next
 nx:S.next+S.H.final.length<=S.H.Ax
 cm:S.came.length<=S.next
 se:∀ x ∈ S.Aw,x.seen<=S.next
 ph:S.ph<=2/\(S.ph=0↔S.H.AF=false)
theorem Al.ok.n1 {S:Al}(h:S.ok):S.now<=S.most:=by have:=h.lv;omega
theorem Al.ok.Kk {S:Al}(h:S.ok):S.next<=1099511627776:=by have:=h.nx;have:=h.H.ok.Bt;omega
structure A3 where
 sb:Nat
 l:Ba
 cy:Nat
 ck:Nat
 EO:Ac
 xb:Nat->Nat
 lb:Nat->Nat
abbrev ptr (b:Nat):Ac:=Ag (some ⟨b,0,none⟩)
def zg (i:Nat)(x:Tx)(lb:Nat)(vt:Ac):Array Ac:=#[I Z i,.bool x.live,I Z x.start,I Z x.seen,ptr lb,vt]
structure ES (w:Aa)(o:Own)(id i xb lb:Nat)(x:Tx):Prop where
 AU:∃ vt,Am w xb (zg i x lb vt) 107/\Row w o (id,22+8*i) 117 2 vt x.AX.length (qg x.AX)
 log:∃ vr vk vh vu,Bq w o id (17+8*i) lb x.log vr vk vh vu
 ob:o xb=(id,16+8*i)
def XB (cy:Nat)(n:Nat):Ac:=if n=1 then .func (.func 126) #[ptr cy] #[] else .func (.func 190) #[ptr cy] #[]
def VW (y:A3)(vp:Ac):Array Ac:=#[ptr y.l.h,vp,Ah none 0 0,Ah none 0 0]
def Bu (w:Aa)(o:Own)(l:Ba)(H:Hp):Prop:=∃ vc vo vw vf f,AE w o l H vc vo vw vf f
def qk (y:A3)(S:Al)(vq vl vm:Ac):Array Ac:=
 #[ptr y.l.h,ptr y.cy,ptr y.ck,y.EO,vq,I Z S.next,I Z S.Av,I Z S.version,vl,vm]
structure Cf (w:Aa)(o:Own)(id:Nat)(S:Al)(vq vl vm:Ac):Prop where
 q:Row w o (id,13) 117 2 vq S.queue.length (qg S.queue)
 l:Row w o (id,14) 3 1 vl S.lost.length (S.lost.map nv)
 m:Row w o (id,15) 3 1 vm S.came.length (S.came.map nv)
def Ff (cy:Nat)(n:Nat):Ac:=if n=0 then .nilFunc else XB cy n
structure Ap (w:Aa)(o:Own)(y:A3)(S:Al):Prop where
 AU:∃ vq vl vm,Am w y.sb (qk y S vq vl vm) 101/\Cf w o y.l.id S vq vl vm
 cy:Am w y.cy (VW y (Ff y.cy S.ph)) 201
 hp:Bu w o y.l S.H
 ck:Am w y.ck #[I Z S.now,I Z S.most] 193
 Ea:Row w o (y.l.id,12) 103 1 y.EO S.Aw.length ((List.range S.Aw.length).map fun i=>ptr (y.xb i))
 Aw:∀ i x,S.Aw[i]?=some x->ES w o y.l.id i (y.xb i) (y.lb i) x
 oc:o y.ck=(y.l.id,10)
 os:o y.sb=(y.l.id,11)
 oy:o y.cy=(y.l.id,7)
theorem AE.Ao {T:Tag->Prop}{w w':Aa}{o o':Own}{l:Ba}{H:Hp}{vc vo vw vf:Ac}{f:Nat->Nat}(h:AE w o l H vc vo vw vf f)(hs:Stp T o o' w w')(hn:∀ j,j<=6->¬T (l.id,j)):AE w' o' l H vc vo vw vf f:=
 ⟨h.hb.Ao hs (by rw[h.oh];exact hn 0 (by omega)),h.B5.Ao hs (by rw[h.oa];exact hn 1 (by omega)) (by rw[h.ow];exact hn 2 (by omega)),
  h.rc.Ao hs (hn _ (by split<;>omega)),h.ro.Ao hs (hn _ (by split<;>omega)),h.rw.Ao hs (hn 5 (by omega)),h.rf.Ao hs (hn 6 (by omega)),
  (hs.tags _ h.hb.lt).trans h.oh,(hs.tags _ h.B5.B2.lt).trans h.oa,(hs.tags _ h.B5.lt).trans h.ow,h.E3,h.B8⟩
theorem Bu.Ao {T:Tag->Prop}{w w':Aa}{o o':Own}{l:Ba}{H:Hp}(h:Bu w o l H)(hs:Stp T o o' w w')(hn:∀ j,j<=6->¬T (l.id,j)):Bu w' o' l H:=by
 obtain⟨vc,vo,vw,vf,f,h⟩:=h;exact⟨vc,vo,vw,vf,f,h.Ao hs hn⟩
theorem ES.Ao {T:Tag->Prop}{w w':Aa}{o o':Own}{id i xb lb:Nat}{x:Tx}(h:ES w o id i xb lb x)(hs:Stp T o o' w w')(hn:∀ j,j<=7->¬T (id,16+8*i+j)):ES w' o' id i xb lb x:=by
 obtain⟨vr,vk,vh,vu,hl⟩:=h.log;obtain⟨vt,hb,hr⟩:=h.AU;refine⟨⟨vt,hb.Ao hs (by rw[h.ob];exact hn 0 (by omega)),hr.Ao hs ?_⟩,⟨vr,vk,vh,vu,hl.Ao hs fun j hj=>?_⟩,(hs.tags _ hb.lt).trans h.ob⟩
 ·have:=hn 6 (by omega)
  rwa [show 16+8*i+6=22+8*i from by omega]at this
 ·have:=hn (1+j) (by omega)
  rwa [show 16+8*i+(1+j)=17+8*i+j from by omega]at this
theorem Cf.Ao {T:Tag->Prop}{w w':Aa}{o o':Own}{id:Nat}{S:Al}{vq vl vm:Ac}(h:Cf w o id S vq vl vm)(hs:Stp T o o' w w')(hn:∀ j,13<=j->j<=15->¬T (id,j)):Cf w' o' id S vq vl vm:=
 ⟨h.q.Ao hs (hn 13 (by omega) (by omega)),h.l.Ao hs (hn 14 (by omega) (by omega)),h.m.Ao hs (hn 15 (by omega) (by omega))⟩
section
variable {w w' : Aa} {o o' : Own} {y : A3} {S : Al}
theorem Ap.lt (h:Ap w o y S):y.sb<w.heap.size:=by obtain⟨_,_,_,hb,_⟩:=h.AU;exact hb.lt
theorem Ap.Ao {T:Tag->Prop}(h:Ap w o y S)(hs:Stp T o o' w w')(hn:∀ j,¬T (y.l.id,j)):Ap w' o' y S:=by
 obtain⟨vq,vl,vm,hb,hr⟩:=h.AU;exact⟨⟨vq,vl,vm,hb.Ao hs (by rw[h.os];exact hn _),hr.Ao hs fun j _ _=>hn j⟩,h.cy.Ao hs (by rw[h.oy];exact hn _),h.hp.Ao hs fun j _=>hn j,h.ck.Ao hs (by rw[h.oc];exact hn _),h.Ea.Ao hs (hn _),fun i x hx=>(h.Aw i x hx).Ao hs fun j _=>hn _,(hs.tags _ h.ck.lt).trans h.oc,(hs.tags _ h.lt).trans h.os,(hs.tags _ h.cy.lt).trans h.oy⟩
theorem Ap.below (h:Ap w o y S)(hb:Ae w.heap.size w w'):Ap w' o y S:=h.Ao (T:=fun _=>False) (Stp.of_below hb) fun _ h=>h
theorem Ap.retag (h:Ap w o y S)(he:∀ b,b<w.heap.size->o' b=o b):Ap w o' y S:=
 h.Ao (T:=fun _=>False) ⟨rfl,rfl,rfl,Qk _,he,fun _ _ _=>rfl⟩ fun _ h=>h
theorem Ap.box (h:Ap w o y S){a:Addr}(ht:o a.block=(y.l.id+1,0))(v:Ac):Ap (w.setCell a v) o y S:=
 h.Ao (T:=fun t=>t=(y.l.id+1,0)) ((Stp.refl _ o w).setCell ht v) fun j=>by simp
theorem Ap.alloc (h:Ap w o y S)(x:Obj):Ap (w.alloc x) o y S:=h.below (qa (qc w) x)
theorem Ap.heap (h:Ap w o y S){H':Hp}(hh:Bu w' o' y.l H')(hs:Stp (zd y.l) o o' w w'):Ap w' o' y { S with H:=H' }:=by
 obtain⟨vq,vl,vm,hb,hr⟩:=h.AU;have hn:∀ j,7<=j->¬zd y.l (y.l.id,j):=fun j hj hh=>by have:=hh.2;simp at this;omega
 exact⟨⟨vq,vl,vm,hb.Ao hs (by rw[h.os];exact hn _ (by omega)),(hr.Ao hs fun j _ _=>hn j (by omega):Cf w' o' y.l.id S vq vl vm).1,(hr.Ao hs fun j _ _=>hn j (by omega):Cf w' o' y.l.id S vq vl vm).2,(hr.Ao hs fun j _ _=>hn j (by omega):Cf w' o' y.l.id S vq vl vm).3⟩,h.cy.Ao hs (by rw[h.oy];exact hn _ (by omega)),hh,h.ck.Ao hs (by rw[h.oc];exact hn _ (by omega)),h.Ea.Ao hs (hn _ (by omega)),fun i x hx=>(h.Aw i x hx).Ao hs fun j _=>hn _ (by omega),(hs.tags _ h.ck.lt).trans h.oc,(hs.tags _ h.lt).trans h.os,(hs.tags _ h.cy.lt).trans h.oy⟩
def yx (y:A3)(i:Nat)(t:Tag):Prop:=t.1=y.l.id/\16+8*i<=t.2/\t.2<=23+8*i
theorem pe {y:A3}{i j:Nat}(h:j<16):¬yx y i (y.l.id,j):=fun hh=>by have:=hh.2.1;simp at this;omega
theorem yf:∀ (l:List Tx)(i:Nat)(x z:Tx),l[i]?=some z->kq (l.set i x)+z.AX.length=kq l+x.AX.length
 | [],i,x,z,h=>by simp at h
 | q::l,0,x,z,h=>by simp at h;subst h;simp[kq];omega
 | q::l,i+1,x,z,h=>by
  have:=yf l i x z (by simpa using h)
  simp[kq];omega
theorem jy (q:Tx)(l:List Tx):js (q::l)=(if q.live then 1 else 0)+js l:=by
 unfold js;rw[List.filter_cons];split
 ·rw[Qv];omega
 ·omega
theorem ye:∀ (l:List Tx)(i:Nat)(x z:Tx),l[i]?=some z->js (l.set i x)+(if z.live then 1 else 0)=js l+if x.live then 1 else 0
 | [],i,x,z,h=>by simp at h
 | q::l,0,x,z,h=>by
  simp at h;subst h;rw[List.set_cons_zero,jy,jy];omega
 | q::l,i+1,x,z,h=>by
  have:=ye l i x z (by simpa using h)
  rw[List.set_cons_succ,jy,jy];omega
theorem Ap.tx (h:Ap w o y S){i:Nat}{x':Tx}(hx':ES w' o' y.l.id i (y.xb i) (y.lb i) x')(hs:Stp (yx y i) o o' w w'):Ap w' o' y { S with Aw:=S.Aw.set i x' }:=by
 obtain⟨vq,vl,vm,hb,hr⟩:=h.AU;refine⟨⟨vq,vl,vm,hb.Ao hs (by rw[h.os];exact pe (by omega)),?_⟩,h.cy.Ao hs (by rw[h.oy];exact pe (by omega)),h.hp.Ao hs fun j hj=>pe (by omega),h.ck.Ao hs (by rw[h.oc];exact pe (by omega)),?_,fun j x hx=>?_,(hs.tags _ h.ck.lt).trans h.oc,(hs.tags _ h.lt).trans h.os,(hs.tags _ h.cy.lt).trans h.oy⟩
 ·have hr':=hr.Ao hs fun j _ _=>pe (by omega)
  exact⟨hr'.q,hr'.l,hr'.m⟩
 ·show Row w' o' _ _ 1 y.EO (S.Aw.set i x').length _
  rw[Qq];exact h.Ea.Ao hs (pe (by omega))
 ·simp only[Qr]at hx
  split at hx
  ·rename_i e;subst e
   split at hx
   ·injection hx with hx;subst hx;exact hx'
   ·cases hx
  ·rename_i e
   exact (h.Aw j x hx).Ao hs fun k hk hh=>by have:=hh.2;simp at this;omega
theorem Ap.clock (h:Ap w o y S){n:Nat}(hc:Am w' y.ck #[I Z n,I Z S.most] 193)(hs:Stp (fun t=>t=(y.l.id,10)) o o' w w'):Ap w' o' y { S with now:=n }:=by
 obtain⟨vq,vl,vm,hb,hr⟩:=h.AU;have hn:∀ j,j≠10->¬(y.l.id,j)=(y.l.id,10):=fun j hj e=>hj (by simpa using e)
 have hr':=hr.Ao hs fun j _ _=>hn j (by omega)
 exact⟨⟨vq,vl,vm,hb.Ao hs (by rw[h.os];exact hn _ (by omega)),hr'.q,hr'.l,hr'.m⟩,h.cy.Ao hs (by rw[h.oy];exact hn _ (by omega)),h.hp.Ao hs fun j hj=>hn _ (by omega),hc,h.Ea.Ao hs (hn _ (by omega)),fun i x hx=>(h.Aw i x hx).Ao hs fun j _=>hn _ (by omega),(hs.tags _ h.ck.lt).trans h.oc,(hs.tags _ h.lt).trans h.os,(hs.tags _ h.cy.lt).trans h.oy⟩
def jr (y:A3)(t:Tag):Prop:=t.1=y.l.id/\(t.2=11\/t.2=13\/t.2=14\/t.2=15)
theorem dl {y:A3}{j:Nat}(h1:j≠11)(h2:j≠13)(h3:j≠14)(h4:j≠15):¬jr y (y.l.id,j):=fun hh=>by have:=hh.2;simp at this;omega
theorem Ap.own (h:Ap w o y S){S':Al}(e1:S'.H=S.H)(e2:S'.ph=S.ph)(e3:S'.now=S.now)(e4:S'.most=S.most)(e5:S'.Aw=S.Aw)
  {vq vl vm:Ac}(hb:Am w' y.sb (qk y S' vq vl vm) 101)(hr:Cf w' o' y.l.id S' vq vl vm)(hs:Stp (jr y) o o' w w'):Ap w' o' y S':=by
 have hn:∀ j,j≠11->j≠13->j≠14->j≠15->¬jr y (y.l.id,j):=fun j a b c d=>dl a b c d
 exact⟨⟨vq,vl,vm,hb,hr⟩,by rw[e2];exact h.cy.Ao hs (by rw[h.oy];exact hn _ (by omega) (by omega) (by omega) (by omega)),by rw[e1];exact h.hp.Ao hs fun j hj=>hn _ (by omega) (by omega) (by omega) (by omega),
  by rw[e3,e4];exact h.ck.Ao hs (by rw[h.oc];exact hn _ (by omega) (by omega) (by omega) (by omega)),by rw[e5];exact h.Ea.Ao hs (hn _ (by omega) (by omega) (by omega) (by omega)),fun i x hx=>(h.Aw i x (by rw[<-e5];exact hx)).Ao hs fun j _=>hn _ (by omega) (by omega) (by omega) (by omega),
  (hs.tags _ h.ck.lt).trans h.oc,(hs.tags _ h.lt).trans h.os,(hs.tags _ h.cy.lt).trans h.oy⟩
theorem Ap.DU (h:Ap w o y S)(i:Nat)(hi:i<S.Aw.length):∃ g cap,y.EO=Ah (some ⟨g,0,none⟩) S.Aw.length cap/\w.cell? ⟨g,i,none⟩=some (ptr (y.xb i))/\S.Aw.length<=cap:=by
 rcases h.Ea.form with ⟨_,h0⟩|⟨g,cap,e,hn,hc,_⟩
 ·omega
 ·refine⟨g,cap,e,?_,hn⟩
  have hr:=h.Ea;rw[e]at hr;refine hr.cells i _ ?_;rw[Qj,List.getElem?_range hi];rfl
def qh (y:A3)(t:Tag):Prop:=t.1=y.l.id
theorem qm (y:A3):¬qh y (y.l.id+1,0):=by unfold qh;simp
theorem sh {y:A3}{i:Nat}{t:Tag}(h:yx y i t):qh y t:=h.1
theorem td {y:A3}{t:Tag}(h:zd y.l t):qh y t:=h.1
theorem uy {y:A3}{t:Tag}(h:jr y t):qh y t:=h.1
def Bl (y:A3)(S:Al)(o:Own)(w w':Aa):Prop:=∃ o',Ap w' o' y S/\Stp (qh y) o o' w w'
theorem Ap.Ee (h:Ap w o y S)(hb:Ae w.heap.size w w'):Bl y S o w w':=⟨o,h.below hb,Stp.of_below hb⟩
theorem Ap.D3 (h:Ap w o y S):Bl y S o w w:=h.Ee (qc w)
end
def Al.t (S:Al)(i:Nat):Tx:=S.Aw.getD i ⟨false,0,0,⟨0,0,[],[],[],[]⟩,[]⟩
theorem Al.AV {S:Al}{i:Nat}(h:i<S.Aw.length):S.Aw[i]?=some (S.t i):=by
 unfold Al.t;simp[List.getD,Qb h]
def Al.tx (S:Al)(i:Nat)(x:Tx):Al:={ S with Aw:=S.Aw.set i x }
theorem Al.CO {S:Al}{i:Nat}(h:i<S.Aw.length)(x:Tx):(S.tx i x).t i=x:=by
 unfold Al.t Al.tx;simp[List.getD,h]
theorem Al.Dm (S:Al){i j:Nat}(h:i≠j)(x:Tx):(S.tx i x).t j=S.t j:=by
 unfold Al.t Al.tx;simp[List.getD,List.getElem?_set_ne h]
theorem Al.Cg (S:Al)(i:Nat)(x:Tx):(S.tx i x).Aw.length=S.Aw.length:=by simp[Al.tx]
theorem Al.PL (S:Al)(i:Nat)(x z:Tx):(S.tx i x).tx i z=S.tx i z:=by simp[Al.tx,List.set_set]
theorem Al.KM {S:Al}(hk:S.ok){H':Hp}(h:H'.wf)(hs:∀ x ∈ H'.cur,yi x.2.second)(ho:∀ x ∈ H'.old,yi x.2.1.second)(hf:S.next+H'.final.length<=H'.Ax)(hm:H'.AF=S.H.AF):Al.ok { S with H:=H' }:=
 ⟨h,hk.n2,hk.lv,hk.t1,hk.t8,hk.lg,hk.st,hk.ve,hk.ho,hs,ho,hk.qu,hf,hk.cm,hk.se,by rw[hm];exact hk.ph⟩
theorem Al.Pp {S:Al}(hk:S.ok){i:Nat}{x x':Tx}(hx:S.Aw[i]?=some x)(h1:x'.log.fit)(h2:x'.start<=S.now)(h3:x'.seen<=S.next)(h4:x'.live=x.live)(h5:x'.AX=x.AX):Al.ok (S.tx i x'):=by
 have hl:=ye S.Aw i x' x hx;have ht:=yf S.Aw i x' x hx;rw[h4]at hl;rw[h5]at ht;have hmem:∀ z ∈ S.Aw.set i x',z ∈ S.Aw\/z=x':=fun z hz=>List.mem_or_eq_of_mem_set hz
 refine⟨hk.H,hk.n2,by have hl':=Nat.add_right_cancel hl;show S.now+js (S.Aw.set i x')<=S.most;rw[hl'];exact hk.lv,by simpa [Al.tx] using hk.t1,by simpa [Al.tx] using hk.t8,fun z hz=>?_,fun z hz=>?_,hk.ve,hk.ho,hk.sc,hk.so,by show S.queue.length+kq (S.Aw.set i x')<=S.next;have:=hk.qu;omega,hk.nx,hk.cm,fun z hz=>?_,hk.ph⟩
 ·rcases hmem z hz with h|rfl
  ·exact hk.lg z h
  ·exact h1
 ·rcases hmem z hz with h|rfl
  ·exact hk.st z h
  ·exact h2
 ·rcases hmem z hz with h|rfl
  ·exact hk.se z h
  ·exact h3
end
section
open Go.RowKit Hp
attribute [local go_sem ↓] Go.wp_at_zero Go.wp_at_succ
def Hp.sec (H:Hp)(p:Nat):Nat:=match lk H.cur p with|some ob=>ob.second|none=>0
def Hp.Da (H:Hp)(p:Nat):Nat×Nat:=match lk H.cur p with|some ob=>(ob.Ax,0)|none=>(0,70)
def Hp.Cz (H:Hp)(p i:Nat):Int×Nat:=match lk H.cur p with|none=>(0,70)|some ob=>match ob.nums[i]? with|none=>(0,71)|some n=>(n,0)
def vg (i start v:Nat):Bool:=if v%2=1 then decide (v/2≠i) else decide (start<v/2)
theorem Al.ok.sec {S:Al}(hk:S.ok)(p:Nat):yi (S.H.sec p)/\S.H.sec p<=2199023255552:=by
 unfold Hp.sec;split
 ·rename_i ob hp;exact⟨hk.sc _ (zo hp),(hk.H.EJ hp).sec⟩
 ·exact⟨fun h=>by simp at h,by omega⟩
theorem QP {l:List (Nat×Ob)}{p:Nat}{o:Ob}{P:Nat->Prop}(h:∀ x ∈ l,P x.2.second)(ho:P o.second):∀ x ∈ up l p o,P x.2.second:=by
 intro x hx;obtain⟨z,hz,rfl⟩:=Qt.1 hx;split
 ·exact ho
 ·exact h z hz
theorem Al.Db {S:Al}(hk:S.ok){p:Nat}{ob ob':Ob}(hp:lk S.H.cur p=some ob)(ho:ob'.ok)(hs:ob'.AN=ob.AN)(h2:yi ob'.second):Al.ok { S with H:={ S.H with cur:=up S.H.cur p ob' } }:=
 Al.KM hk (sy hk.H hp ho hs) (QP hk.sc h2) hk.so hk.nx rfl
theorem Al.CG {S:Al}(hk:S.ok)(p i q:Nat):Al.ok { S with H:=(S.H.A9 p i q).1 }:=by
 unfold Hp.A9;split
 ·exact hk
 ·rename_i ob hp
  split
  ·exact hk
  ·rename_i hq
   split
   ·exact hk
   ·exact Al.Db hk hp (Ob.Ck (hk.H.EJ hp) i q (Kf hk.H.ok hq)) rfl (hk.sc _ (zo hp))
theorem Al.DK {S:Al}(hk:S.ok)(p i:Nat){n:Int}(hn:-9223372036854775808<=n/\n<=9223372036854775807):Al.ok { S with H:=(S.H.Bm p i n).1 }:=by
 unfold Hp.Bm;split
 ·exact hk
 ·rename_i ob hp
  split
  ·exact hk
  ·exact Al.Db hk hp (Ob.DN (hk.H.EJ hp) i n hn) rfl (hk.sc _ (zo hp))
theorem Al.Cl {S:Al}(hk:S.ok)(p:Nat)(b:Bool):Al.ok { S with H:=(S.H.AS p b).1 }:=by
 unfold Hp.AS;split
 ·exact hk
 ·rename_i ob hp;exact Al.Db hk hp (Ob.CU (hk.H.EJ hp) b) rfl (hk.sc _ (zo hp))
theorem Al.CM {S:Al}(hk:S.ok)(p:Nat){v:Nat}(hv:v<=2199023255552)(h2:yi v):Al.ok { S with H:=(S.H.AB p v).1 }:=by
 unfold Hp.AB;split
 ·exact hk
 ·rename_i ob hp;exact Al.Db hk hp (Ob.CJ (hk.H.EJ hp) v hv) rfl h2
theorem WQ {l:List (Nat×Ob×Option Nat)}{p q:Nat}(h:∀ x ∈ l,yi x.2.1.second):∀ x ∈ qr l p q,yi x.2.1.second:=by
 intro x hx;unfold qr at hx;obtain⟨z,hz,rfl⟩:=Qt.1 hx;split
 ·exact h z hz
 ·exact h z hz
def Cj (H:Hp):Prop:=(∀ x ∈ H.cur,yi x.2.second)/\∀ x ∈ H.old,yi x.2.1.second
theorem Al.ok.EF {S:Al}(hk:S.ok):Cj S.H:=⟨hk.sc,hk.so⟩
theorem Cj.AA {H:Hp}(h:Cj H)(p:Nat):Cj (H.AA p).1:=by
 unfold Hp.AA;split
 ·exact h
 ·exact h
 ·rename_i ob hp
  refine⟨fun x hx=>?_,WQ h.2⟩
  rcases Qs.1 (show x ∈ H.cur++_ from hx) with hx|hx
  ·exact h.1 x hx
  ·rw[Za.1 hx];exact h.2 _ (jf hp)
theorem Cj.As:∀ (l:List Nat){H:Hp},Cj H->Cj (H.As l).1
 | [],_,h=>h
 | p::l,_,h=>Cj.As l (h.AA p)
theorem Al.F9 {S:Al}(hk:S.ok)(p:Nat):Al.ok { S with H:=(S.H.AA p).1 }:=by
 have h:=ga (H:=S.H) p;exact Al.KM hk (Hp.EZ hk.H p) (hk.EF.AA p).1 (hk.EF.AA p).2 (by rw[h.2.2.2.2.2.2.1,h.2.2.2.2.1];exact hk.nx) h.2.2.1
theorem Al.CV {S:Al}(hk:S.ok)(p i:Nat):Al.ok { S with H:=(S.H.A5 p i).1 }:=by
 unfold Hp.A5;split
 ·exact hk
 ·rename_i ob hp
  split
  ·exact hk
  ·rename_i x hx
   split
   ·have h1:=Al.F9 hk x
    have ho:=hk.H.EJ hp;exact Al.Db h1 (yp hp) (Ob.Ck ho i _ (sq hk.H.ok (ho.ptr x (Qe hx)))) rfl (hk.sc _ (zo hp))
   ·exact hk
theorem Al.NQ {S:Al}(hk:S.ok){s:B3}(hs:s.ok)(hr:S.H.roomy s=true):Al.ok { S with H:=S.H.lay s }:=by
 refine Al.KM hk (Hp.MW hk.H hs hr) (fun x hx=>?_) hk.so ?_ rfl
 ·rcases Qs.1 (show x ∈ S.H.cur++_ from hx) with hx|hx
  ·exact hk.sc x hx
  ·rw[Za.1 hx];intro h;simp[Ob.new]at h
 ·show S.next+List.length (if s.final then _ else _)<=S.H.Ax+1
  have:=hk.nx;split<;>simp<;>omega
theorem Al.D6 {S:Al}(hk:S.ok){s:B3}(hs:s.ok):Al.ok { S with H:=(S.H.AM s).1 }:=by
 unfold Hp.AM;split
 ·rename_i hr;exact Al.NQ hk hs hr
 ·exact hk
section
variable {w w' : Aa} {o o' : Own} {y : A3} {S : Al} {x : Tx} {i : Nat}
theorem AE.Fu {l:Ba}{H H':Hp}{vc vo vw vf:Ac}{f:Nat->Nat}(hh:AE w o l H vc vo vw vf f)(h':∃ f',AE w' o l H' vc vo vw vf f')(hw:Wr l.wd w w'):Bu w' o l H'/\Stp (zd l) o o w w':=by
 obtain⟨f',h'⟩:=h';exact⟨⟨vc,vo,vw,vf,f',h'⟩,Stp.BR hw (by rw[hh.ow];exact⟨rfl,by simp⟩)⟩
theorem Ap.Dz (h:Ap w o y S){H':Hp}(hh:Bu w' o y.l H')(hs:Stp (zd y.l) o o w w'):Bl y { S with H:=H' } o w w':=⟨o,h.heap hh hs,hs.mono fun _=>td⟩
theorem Mx (h:Ap w o y S)(hk:S.ok)(p j:Nat) :
  Ab Tryz.prog 76 #[ptr y.l.h,I Z p,I Z j] w fun e w'=>e=O (Aj #[I Z (S.H.Cz p j).1,I Z ((S.H.Cz p j).2:Nat)])/\Ae w.heap.size w w':=by
 obtain⟨vc,vo,vw,vf,f,hh⟩:=h.hp;unfold Hp.Cz
 cases hp:lk S.H.cur p with
 | none=>exact Kr hh hk.H.ok hp j
 | some ob =>
  simp only
  cases hn:ob.nums[j]? with
  | none=>exact GW hh hk.H.ok hp j (by have:=List.getElem?_eq_none_iff.1 hn;rw[(hk.H.EJ hp).ln]at this;exact this)
  | some n=>exact LJ hh hk.H.ok hp j n hn
theorem JQ (h:Ap w o y S)(hk:S.ok)(p:Nat) :
  Ab Tryz.prog 70 #[ptr y.l.h,I Z p] w fun e w'=>e=O (Aj #[I Z ((S.H.Da p).1:Nat),I Z ((S.H.Da p).2:Nat)])/\Ae w.heap.size w w':=by
 obtain⟨vc,vo,vw,vf,f,hh⟩:=h.hp;unfold Hp.Da
 cases hp:lk S.H.cur p with
 | none=>exact UR hh hk.H.ok hp
 | some ob=>exact Tq hh hk.H.ok hp
theorem Sg (h:Ap w o y S)(hk:S.ok)(p:Nat) :
  Ab Tryz.prog 141 #[ptr y.l.h,I Z p] w fun e w'=>∃ er:Int,e=O (Aj #[.int .u64 (S.H.sec p:Nat),I Z er])/\Ae w.heap.size w w':=by
 obtain⟨vc,vo,vw,vf,f,hh⟩:=h.hp;unfold Hp.sec
 cases hp:lk S.H.cur p with
 | none=>exact (WY hh hk.H.ok hp).mono fun _ _⟨a,b⟩=>⟨70,a,b⟩
 | some ob=>exact (Xg hh hk.H.ok hp).mono fun _ _⟨a,b⟩=>⟨0,a,b⟩
theorem Pu (h:Ap w o y S)(hk:S.ok)(p:Nat) :
  Ab Tryz.prog 61 #[ptr y.l.h,I Z p] w fun e w'=>e=O (.bool (lk S.H.cur p).isSome)/\Ae w.heap.size w w':=by
 obtain⟨vc,vo,vw,vf,f,hh⟩:=h.hp;exact rq hh hk.H.ok p p rfl
theorem Vh (h:Ap w o y S)(hk:S.ok)(p j:Nat)(n:Int)(hn:-9223372036854775808<=n/\n<=9223372036854775807) :
  Ab Tryz.prog 110 #[ptr y.l.h,I Z p,I Z j,I Z n] w fun e w'=>e=O (I Z ((S.H.Bm p j n).2:Nat))/\Bl y { S with H:=(S.H.Bm p j n).1 } o w w':=by
 obtain⟨vc,vo,vw,vf,f,hh⟩:=h.hp;unfold Hp.Bm
 cases hp:lk S.H.cur p with
 | none=>exact (Wo hh hk.H.ok hp j n).mono fun _ _⟨a,b⟩=>⟨a,h.Ee b⟩
 | some ob =>
  simp only;by_cases hj:ob.AN.d<=j
  ·rw[if_pos hj]
   exact (Y2 hh hk.H.ok hp j n hj).mono fun _ _⟨a,b⟩=>⟨a,h.Ee b⟩
  ·rw[if_neg hj]
   refine (Xl hh hk.H.ok hp j n (by omega) hn).mono ?_
   rintro e w'⟨rfl,_,h',hw⟩
   obtain⟨a1,a2⟩:=hh.Fu h' hw;exact⟨rfl,h.Dz a1 a2⟩
theorem m7 (h:Ap w o y S)(hk:S.ok)(p:Nat)(b:Bool) :
  Ab Tryz.prog 121 #[ptr y.l.h,I Z p,.bool b] w fun e w'=>e=O (I Z ((S.H.AS p b).2:Nat))/\Bl y { S with H:=(S.H.AS p b).1 } o w w':=by
 obtain⟨vc,vo,vw,vf,f,hh⟩:=h.hp;unfold Hp.AS
 cases hp:lk S.H.cur p with
 | none=>exact (X6 hh hk.H.ok hp b).mono fun _ _⟨a,b⟩=>⟨a,h.Ee b⟩
 | some ob =>
  refine (Yz hh hk.H.ok hp b).mono ?_
  rintro e w'⟨rfl,_,h',hw⟩
  obtain⟨a1,a2⟩:=hh.Fu h' hw;exact⟨rfl,h.Dz a1 a2⟩
theorem UU (h:Ap w o y S)(hk:S.ok)(p v:Nat)(hv:v<=2199023255552) :
  Ab Tryz.prog 145 #[ptr y.l.h,I Z p,.int .u64 v] w fun e w'=>e=O (I Z ((S.H.AB p v).2:Nat))/\Bl y { S with H:=(S.H.AB p v).1 } o w w':=by
 obtain⟨vc,vo,vw,vf,f,hh⟩:=h.hp;unfold Hp.AB
 cases hp:lk S.H.cur p with
 | none=>exact (bi hh hk.H.ok hp v).mono fun _ _⟨a,b⟩=>⟨a,h.Ee b⟩
 | some ob =>
  refine (bp hh hk.H.ok hp v hv).mono ?_
  rintro e w'⟨rfl,_,h',hw⟩
  obtain⟨a1,a2⟩:=hh.Fu h' hw;exact⟨rfl,h.Dz a1 a2⟩
theorem Kv (h:Ap w o y S)(hk:S.ok)(s:B3)(hs:s.ok) :
  Ab Tryz.prog 167 #[ptr y.l.h,ka s] w fun e w'=>e=O (Aj #[I Z ((S.H.AM s).2.1:Nat),I Z ((S.H.AM s).2.2:Nat)])/\Bl y { S with H:=(S.H.AM s).1 } o w w':=by
 obtain⟨vc,vo,vw,vf,f,hh⟩:=h.hp;refine (WX hh hk.H s hs).mono ?_
 rintro e w' ⟨rfl,vc',vo',vw',vf',f',o',hh',hs⟩
 exact⟨rfl,o',h.heap ⟨_,_,_,_,_,hh'⟩ hs,hs.mono fun _=>td⟩
theorem CF (h:Ap w o y S)(hk:S.ok)(hi:i<S.Aw.length) :
  Ab Tryz.prog 52 #[ptr y.sb,I Z i] w fun e w'=>e=O (ptr (y.xb i))/\w=w':=by
 obtain⟨g,cap,e,hc,hcap⟩:=h.DU i hi;obtain⟨vq,vl,vm,hb,_⟩:=h.AU;unfold qk at hb;rw[e]at hb;have c:=hb.cell;have hI:(i:Int)<(S.Aw.length:Int):=by omega
 have h8:=hk.t8;clear h hk;go_enter Tryz.func52,Tryz.ntmps52;go_wp2_with fail;go_ret;exact⟨rfl,rfl⟩
theorem ES.cell {id xb lb:Nat}(h:ES w o id i xb lb x):∃ vt,∀ j,w.cell? ⟨xb,j,none⟩=(#[I Z i,.bool x.live,I Z x.start,I Z x.seen,ptr lb,vt]:Array Ac)[j]?:=by
 obtain⟨vt,hb,_⟩:=h.AU;exact⟨vt,hb.cell⟩
theorem xh (h:Ap w o y S)(hk:S.ok)(hx:S.Aw[i]?=some x) :
  Ab Tryz.prog 72 #[ptr y.sb,I Z i] w fun e w'=>e=O (if x.live then ptr (y.xb i) else Ag none)/\w=w':=by
 have HT:=Qa (CF h hk (Qc.1 hx).1);obtain⟨vt,c⟩:=(h.Aw i x hx).cell;clear h hk hx
 cases hl:x.live
 all_goals
  rw[hl]at c;go_enter Tryz.func72,Tryz.ntmps72;go_wp2_with fail;refine HT.out.mono ?_
  rintro e w1⟨rfl,rfl⟩
  go_wp2_with fail;go_ret;exact⟨rfl,rfl⟩
theorem Ky (h:Ap w o y S)(hk:S.ok)(hx:S.Aw[i]?=some x) :
  Ab Tryz.prog 21 #[ptr y.sb,I Z i] w fun e w'=>e=O (Aj #[I Z (if x.live then (x.start:Int) else 0),.bool x.live])/\w=w':=by
 have HT:=Qa (xh h hk hx);obtain⟨vt,c⟩:=(h.Aw i x hx).cell;clear h hk hx
 cases hl:x.live
 all_goals
  rw[hl]at c HT
  try simp only[if_true,if_false,Bool.false_eq_true]at HT ⊢
  go_enter Tryz.func21,Tryz.ntmps21;go_wp2_with fail;refine HT.out.mono ?_
  rintro e w1⟨rfl,rfl⟩
  go_wp2_with fail;go_ret2;exact⟨rfl,rfl⟩
theorem MB (h:Ap w o y S) :
  Ab Tryz.prog 23 #[ptr y.sb] w fun e w'=>e=O (I Z S.now)/\w=w':=by
 have HC:=Qa (SF h.ck);obtain⟨vq,vl,vm,hb,_⟩:=h.AU;unfold qk at hb;have c:=hb.cell;clear h;go_enter Tryz.func23,Tryz.ntmps23;go_wp2_with fail;refine HC.out.mono ?_
 rintro e w1⟨rfl,rfl⟩
 go_wp2_with fail;go_ret;exact⟨rfl,rfl⟩
theorem Vm (h:Ap w o y S)(hk:S.ok)(p:Nat) :
  Ab Tryz.prog 155 #[ptr y.sb,I Z p] w fun e w'=>e=O (Aj #[I Z ((S.H.Da p).1:Nat),I Z ((S.H.Da p).2:Nat)])/\Ae w.heap.size w w':=by
 have HC:=Qa (JQ h hk p);obtain⟨vq,vl,vm,hb,_⟩:=h.AU;unfold qk at hb;have c:=hb.cell;generalize (((S.H.Da p).1:Nat):Int)=r at *;generalize (((S.H.Da p).2:Nat):Int)=q at *;clear h hk;go_enter Tryz.func155,Tryz.ntmps155;go_wp2_with fail;refine HC.out.mono ?_
 rintro e w1⟨rfl,hb1⟩
 go_wp2_with fail;go_ret2;exact⟨rfl,hb1⟩
theorem lr (v:Nat)(hv:v<=2199023255552)(hs:yi v)(w:Aa):Ab Tryz.prog 142 #[.int .u64 v] w fun e w' =>
  e=O (Aj #[I Z (if v%2=1 then ((v/2:Nat):Int) else 0),I Z (if v%2=1 then 0 else ((v/2:Nat):Int)),.bool (decide (v%2=1))])/\w=w':=by
 by_cases h:v%2=1
 ·have h8:=hs h
  have e1:(v:Int)=2*((v/2:Nat):Int)+1:=by omega
  rw[e1,if_pos h,if_pos h,decide_eq_true h];exact Yv _ ⟨by omega,by omega⟩ w
 ·have e1:(v:Int)=2*((v/2:Nat):Int):=by omega
  rw[e1,if_neg h,if_neg h,decide_eq_false h];exact Wn _ ⟨by omega,by omega⟩ w
theorem SD (h:Ap w o y S)(hk:S.ok)(hx:S.Aw[i]?=some x)(p:Nat) :
  Ab Tryz.prog 82 #[ptr y.sb,ptr (y.xb i),I Z p] w fun e w'=>e=O (.bool (vg i x.start (S.H.sec p)))/\Ae w.heap.size w w':=by
 have HC:=Qa (Sg h hk p);obtain⟨hs,hv⟩:=hk.sec p;have HO:=Qa (fun w=>lr (S.H.sec p) hv hs w)
 obtain⟨vq,vl,vm,hb,_⟩:=h.AU;unfold qk at hb;have c:=hb.cell;obtain⟨vt,jx,_⟩:=(h.Aw i x hx).AU;unfold zg at jx;unfold vg;generalize S.H.sec p=v at *;clear h hk hx hs hv;by_cases hv:v%2=1
 ·rw[if_pos hv]
  rw[if_pos hv,if_pos hv,decide_eq_true hv]at HO;have hd:decide (v/2≠i)=decide ((((v/2:Nat):Int))≠(i:Int)):=by
   rw[Bool.eq_iff_iff];simp only[decide_eq_true_eq];omega
  rw[hd];generalize ((v/2:Nat):Int)=q at *;clear hv hd;go_enter Tryz.func82,Tryz.ntmps82;go_wp2_with fail;refine HC.out.mono ?_
  rintro e w1⟨er,rfl,hb1⟩
  have cx:=(jx.below hb1 jx.lt).cell;go_wp2_with fail;refine (HO.out _).mono ?_
  rintro e w2⟨rfl,rfl⟩
  go_wp2_with fail;go_ret;exact⟨by simp[bne,BEq.beq],hb1⟩
 ·rw[if_neg hv]
  rw[if_neg hv,if_neg hv,decide_eq_false hv]at HO;have hd:decide (x.start<v/2)=decide ((x.start:Int)<(((v/2:Nat):Int))):=by
   rw[Bool.eq_iff_iff];simp only[decide_eq_true_eq];omega
  rw[hd];generalize ((v/2:Nat):Int)=q at *;clear hv hd;go_enter Tryz.func82,Tryz.ntmps82;go_wp2_with fail;refine HC.out.mono ?_
  rintro e w1⟨er,rfl,hb1⟩
  have cx:=(jx.below hb1 jx.lt).cell;go_wp2_with fail;refine (HO.out _).mono ?_
  rintro e w2⟨rfl,rfl⟩
  go_wp2_with fail;go_ret;exact⟨rfl,hb1⟩
theorem Hf (h:Ap w o y S)(hk:S.ok)(hx:S.Aw[i]?=some x)(p:Nat) :
  Ab Tryz.prog 169 #[ptr y.sb,ptr (y.xb i),I Z p] w fun e w'=>e=O (Aj #[])/\Bl y { S with H:=(S.H.AB p (2*i+1)).1 } o w w':=by
 have h8:=hk.t8;have hi:=(Qc.1 hx).1;have HC:=UU h hk p (2*i+1) (by omega)
 have HO:=Qa (fun w=>Rq i ⟨by omega,by omega⟩ w)
 have ei:((2*i+1:Nat):Int)=2*(i:Int)+1:=by omega
 rw[ei]at HC;generalize (S.H.AB p (2*i+1))=r at *;replace HC:=Qa HC;generalize 2*(i:Int)+1=q at HC HO;obtain⟨vq,vl,vm,hb,_⟩:=h.AU;unfold qk at hb;have c:=hb.cell;obtain⟨vt,cx⟩:=(h.Aw i x hx).cell;clear h hk hx hi h8 ei;go_enter Tryz.func169,Tryz.ntmps169;go_wp2_with fail;refine (HO.out _).mono ?_
 rintro e w1 ⟨rfl,rfl⟩
 go_wp2_with fail;refine HC.out.mono ?_
 rintro e w2 ⟨rfl,hl⟩
 go_wp2_with fail;go_end0;exact⟨rfl,hl⟩
theorem qjn (h:Ap w o y S)(hk:S.ok)(p v:Nat)(hv:v<=1099511627776) :
  Ab Tryz.prog 84 #[ptr y.sb,I Z p,I Z v] w fun e w'=>e=O (Aj #[])/\Bl y { S with H:=(S.H.AB p (2*v)).1 } o w w':=by
 have HC:=UU h hk p (2*v) (by omega)
 have HO:=Qa (fun w=>tf v ⟨by omega,by omega⟩ w)
 have ei:((2*v:Nat):Int)=2*(v:Int):=by omega
 rw[ei]at HC;generalize (S.H.AB p (2*v))=r at *;replace HC:=Qa HC;generalize 2*(v:Int)=q at HC HO;obtain⟨vq,vl,vm,hb,_⟩:=h.AU;unfold qk at hb;have c:=hb.cell;clear h hk hv ei;go_enter Tryz.func84,Tryz.ntmps84;go_wp2_with fail;refine (HO.out _).mono ?_
 rintro e w1 ⟨rfl,rfl⟩
 go_wp2_with fail;refine HC.out.mono ?_
 rintro e w2 ⟨rfl,hl⟩
 go_wp2_with fail;go_end0;exact⟨rfl,hl⟩
def Tx.ended (x:Tx):Tx:={ x with live:=false,log:={ x.log with reads:=[],keeps:=[],holds:=[],Au:=[] },AX:=[] }
theorem Pn (h:Ap w o y S)(hx:S.Aw[i]?=some x) :
  Ab Tryz.prog 80 #[ptr y.sb,ptr (y.xb i)] w fun e w'=>e=O (Aj #[])/\Bl y (S.tx i x.ended) o w w':=by
 have ht:=h.Aw i x hx;obtain⟨vr,vk,vh,vu,hl⟩:=ht.log;have HR:=Qa (Yx hl);have HI:=Qa h;obtain⟨vt,jx,hrow⟩:=ht.AU;have HRow:=Qa hrow;unfold zg at jx;have c:=jx.cell;have ob:=ht.ob;clear h hl ht hx hrow;go_enter Tryz.func80,Tryz.ntmps80;go_wp2_with fail;refine HR.out.mono ?_
 rintro e w1 ⟨rfl,hl1,hs1⟩
 have j1:=jx.Ao hs1 (by rw[ob];simp)
 clear c jx;have c:=j1.cell;have z:=j1.free;have s:=j1.lt;go_wp2_with fail;go_end0;have hs2:Stp (yx y i) o o w1 ((w1.setCell ⟨y.xb i,5,none⟩ (Ah none 0 0)).setCell ⟨y.xb i,1,none⟩ (.bool false)):=
  ((Stp.refl _ o w1).setCell (by show yx y i (o (y.xb i));rw[ob];exact⟨rfl,by simp,by simp⟩) _).setCell (by show yx y i (o (y.xb i));rw[ob];exact⟨rfl,by simp,by simp⟩) _
 have hs3:Stp (fun t=>t=(y.l.id,16+8*i)) o o w1 ((w1.setCell ⟨y.xb i,5,none⟩ (Ah none 0 0)).setCell ⟨y.xb i,1,none⟩ (.bool false)):=
  ((Stp.refl _ o w1).setCell (by show o (y.xb i)=_;exact ob) _).setCell (by show o (y.xb i)=_;exact ob) _
 have hs:Stp (yx y i) o o w _:=(hs1.mono (by rintro _ rfl;exact⟨rfl,by simp,by simp⟩)).trans hs2
 exact⟨rfl,o,HI.out.tx ⟨⟨_,(j1.set 5 _).set 1 _,Row.nil _ _ _ _ _⟩,⟨_,_,_,_,hl1.Ao hs3 fun j hj=>by simp;omega⟩,ob⟩ hs,hs.mono fun _=>sh⟩
end
theorem pw {w:Aa}{B:Nat}{cs:Array Ac}{t:TypeId}(h:Am w B cs t):∀ j u,cs.toList[j]?=some u->w.cell? ((⟨B,0,none⟩:Addr).add j)=some u:=fun j u hu=>by
 have hadd:(⟨B,0,none⟩:Addr).add j=⟨B,j,none⟩:=by unfold Addr.add;split<;>simp_all
 rw[hadd,h.cell];simpa using hu
theorem U2 {n b:Nat}(h:n<=4096)(hb:b<=64):n+1<=maxLen/\(n+1)*b<=140737488355328:=by
 constructor
 ·simp only[maxLen];omega
 ·have:(n+1)*b<=4097*64:=Nat.mul_le_mul (by omega) hb
  omega
abbrev Sk (u:Un):Ac:=Ak #[nv u.kind,nv u.pos,nv u.i,I Z u.old]
section
variable {w : Aa} {o : Own} {id k b : Nat} {L : Lg} {vr vk vh vu : Ac}
theorem Xi (h:Bq w o id k b L vr vk vh vu)(u:Un)(hm:L.mu<=L.Au.length) :
  Ab Tryz.prog 120 #[Ag (some ⟨b,0,none⟩),Sk u] w fun e w'=>e=O (.bool false)/\Ae w.heap.size w w':=by
 have j:=h.AU;have c:=h.AU.cell;have s:=h.AU.lt;obtain⟨pa,cp,rfl⟩:=h.ru.AY;have hng:(L.mu:Int)<=(L.Au.length:Int):=by omega
 clear h;go_enter Tryz.func120,Tryz.ntmps120;go_upto_region 1 with fail;go_quiet (fail);go_wp2_with fail;go_ret;exact⟨rfl,zh (qa (qc w) _) _⟩
theorem qd4 (h:Bq w o id k b L vr vk vh vu) (hk:L.ok) (u:Un) (hm:L.Au.length<L.mu) :
  Ab Tryz.prog 120 #[Ag (some ⟨b,0,none⟩),Sk u] w fun e w'=>e=O (.bool true) /\
   ∃ vu' o',Bq w' o' id k b { L with Au:=L.Au++[u] } vr vk vh vu'/\Stp (fun t=>t=(id,k)\/t=(id,k+4)) o o' w w':=by
 have HI:=Qa h;have j:=h.AU;have c:=h.AU.cell;have s:=h.AU.lt;obtain⟨pa,cp,rfl⟩:=h.ru.AY;have hng:(L.Au.length:Int)<(L.mu:Int):=by omega
 have hw:=Qa (U2 (n:=L.Au.length) (b:=32) (by have:=hk.u;have:=hk.mu;omega) (by omega))
 obtain⟨iU,hi,hsI,hyI,hzI⟩:=VB;have hu64:=Tryz.underlying212;clear h hk hm;go_enter Tryz.func120,Tryz.ntmps120;go_upto_region 1 with fail;go_quiet (fail);go_upto_region 3 with fail;obtain⟨W,hW⟩:∃ W:Aa,W=(w.alloc (.cells #[nv u.kind,nv u.pos,nv u.i,I Z u.old] 175)).drewN nq:=⟨_,rfl⟩;rw[<-hW];have hbW:Ae w.heap.size w W:=by rw[hW];exact zh (qa (qc w) _) _
 have jB:Am W w.heap.size #[nv u.kind,nv u.pos,nv u.i,I Z u.old] 175:=by rw[hW];exact (Am.new w _ _).drewN _
 have jL:=j.below hbW j.lt;clear hW c s;have cL:=jL.cell;have sL:=jL.lt;have cB:=jB.cell;have sB:=jB.lt;have rn:=(HI.out.ru.below hbW).below (qa (qe (qc W)) (.cells #[nv u.kind,nv u.pos,nv u.i,I Z u.old] 175));have jn:=Am.new W.drew #[nv u.kind,nv u.pos,nv u.i,I Z u.old] 175;have hone:=Tg [u];have hkeep:=fun (w1:Aa) (o1:Own) (hst:Stp (fun t=>t=(id,k+4)) o o1 (W.drew.alloc (.cells #[nv u.kind,nv u.pos,nv u.i,I Z u.old] 175)) w1)=>(Am.alloc (qi jL) (.cells #[nv u.kind,nv u.pos,nv u.i,I Z u.old] 175)).Ao hst (by rw[HI.out.ob];simp)
 have hfin:=Qa (fun (w1:Aa) (o1:Own) (pa':Option Addr) (cp':Nat) (hown:Row w1 o1 (id,k+4) 175 4 (.slice pa' (L.Au.length+1) cp') (L.Au.length+1) (qz L.Au++[nv u.kind,nv u.pos,nv u.i,I Z u.old])) (hst:Stp (fun t=>t=(id,k+4)) o o1 (W.drew.alloc (.cells #[nv u.kind,nv u.pos,nv u.i,I Z u.old] 175)) w1) =>
  show ∃ vu' o',Bq (w1.setCell ⟨b,5,none⟩ (.slice pa' (L.Au.length+1) cp')) o' id k b { L with Au:=L.Au++[u] } vr vk vh vu'/\Stp (fun t=>t=(id,k)\/t=(id,k+4)) o o' w (w1.setCell ⟨b,5,none⟩ (.slice pa' (L.Au.length+1) cp')) from by
   have h:=HI.out;have hlt:b<(W.drew.alloc (.cells #[nv u.kind,nv u.pos,nv u.i,I Z u.old] 175)).heap.size:=(Am.alloc (qi jL) _).lt;have ho1:o1 b=(id,k):=by rw[hst.tags b hlt];exact h.ob
   have k1:Stp (fun t=>t=(id,k)) o1 o1 w1 (w1.setCell ⟨b,5,none⟩ (.slice pa' (L.Au.length+1) cp')):=(Stp.refl _ o1 w1).setCell (by simpa using ho1) _
   have S:Stp (fun t=>t=(id,k)\/t=(id,k+4)) o o1 w (w1.setCell ⟨b,5,none⟩ (.slice pa' (L.Au.length+1) cp')):=
    (Stp.of_below (hbW.trans ((qa (qe (qc W)) _).mono hbW.size))).trans ((hst.mono fun _ e=>Or.inr e).trans (k1.mono fun _ e=>Or.inl e))
   refine⟨_,o1,⟨(hkeep _ _ hst).set 5 _,h.rr.Ao S (by simp),h.rk.Ao S (by simp),h.rh.Ao S (by simp),?_,ho1⟩,S⟩
   have hr:=hown.Ao k1 (by simp)
   show Row _ o1 (id,k+4) 175 4 _ (L.Au++[u]).length (qz (L.Au++[u]));rw[qhm];simpa using hr)
 go_region_law ((refine zj _ (by rfl) _ _ _ (by rfl) 175 iU _ 4 32 hu64 hi hzI hsI hyI (by rfl) (by decide) o (id,k+4) _ _ _ (by rfl) rn ⟨W.heap.size,0,none⟩ 1 1 [nv u.kind,nv u.pos,nv u.i,I Z u.old] (by rfl) (by rfl) (pw jn) hone hw.out.1 hw.out.2 ?_;intro v' w1 hown hst;obtain⟨pa',cp',rfl⟩:=hown.AY;have jX:=hkeep _ _ hst;have cX:=jX.cell;have zX:=jX.free;have sX:=jX.lt))
 all_goals
  go_wp2_with fail;go_ret;exact⟨rfl,hfin.out _ _ _ _ hown hst⟩
end
section
variable {w : Aa} {o : Own} {id k b : Nat} {L : Lg} {vr vk vh vu : Ac}
theorem Row.ET {w:Aa}{o:Own}{t:Tag}{l:List (Nat×Nat)}{g n cap:Nat}(h:Row w o t 131 2 (Ah (some ⟨g,0,none⟩) n cap) n (qg l))(i:Nat)(x:Nat×Nat)(hx:l[i]?=some x) :
  w.cell? ⟨g,i*2,none⟩=some (nv x.1)/\w.cell? ⟨g,i*2+1,none⟩=some (nv x.2):=by
 have h2:=yh l i x hx;have f:=fun j u hu=>h.own.cells (g:=g) rfl j u hu
 have e:∀ j,(⟨g,0,none⟩:Addr).add j=⟨g,j,none⟩:=fun j=>by unfold Addr.add;split<;>simp_all
 have a1:=f _ _ h2.1;have a2:=f _ _ h2.2;rw[e]at a1 a2;rw[Nat.mul_comm i 2];exact⟨a1,a2⟩
theorem Wz (h:Bq w o id k b L vr vk vh vu) (hk:L.ok) (p v:Nat) (hp:∀ x ∈ L.holds,x.1≠p) (hm:L.holds.length<L.mu) :
  Ab Tryz.prog 168 #[Ag (some ⟨b,0,none⟩),Ak #[I Z p,I Z v]] w fun e w'=>e=O (.bool true) /\
   ∃ vh' o',Bq w' o' id k b { L with holds:=L.holds++[(p,v)] } vr vk vh' vu/\Stp (fun t=>t=(id,k)\/t=(id,k+3)) o o' w w':=by
 have HI:=Qa h;have HP:=Qa hp;have j:=h.AU;have c:=h.AU.cell;have s:=h.AU.lt;obtain⟨pa,cp,rfl⟩:=h.rh.AY;have hng:(L.holds.length:Int)<(L.mu:Int):=by omega
 have hlen:=Qa (show L.holds.length<=200 by have:=hk.h;have:=hk.mu;omega)
 have hw:=Qa (U2 (n:=L.holds.length) (b:=16) (by have:=hk.h;have:=hk.mu;omega) (by omega))
 obtain⟨iU,hi,hsI,hyI,hzI⟩:=Ux;have hu64:=Tryz.underlying126;clear h hk hm hp;go_enter Tryz.func168,Tryz.ntmps168;go_wp2_with fail;go_loopw [14] (fun ix wr=>∃ i:Nat,ix=I Z i/\i<=L.holds.length/\Ae w.heap.size w wr/\Am wr w.heap.size #[I Z p,I Z v] 131) (fun ix _=>L.holds.length-(intOf ix).toNat)
 case atStart=>exact⟨0,rfl,by omega,qa (qc w) _,Am.new w _ _⟩
 case round =>
  obtain⟨i,rfl,hil,hbr,jB⟩:=hrel;clear c s;have jL:=j.below hbr j.lt;have cL:=jL.cell;have sL:=jL.lt;have cB:=jB.cell;have sB:=jB.lt;have hR:=HI.out.rh.below hbr;by_cases hlt:i<L.holds.length
  ·obtain⟨x,hx⟩:∃ x,L.holds[i]?=some x:=⟨_,Qb hlt⟩
   have hne:(x.1:Int)≠(p:Int):=by have:=HP.out x (Qe hx);omega
   rcases hR.own.2 with ⟨e1,e2⟩|⟨g,cap,cur,e1,_,hg,hn,hc,_⟩
   ·omega
   ·injection e1 with e1 _ e2
    subst e1 e2;obtain⟨c0,c1⟩:=hR.ET i x hx;have sg:g<wr.heap.size:=(Qf.1 hg).1;have hI:(i:Int)<(L.holds.length:Int):=by omega
    have hI2:(i:Int)<200:=by have:=hlen.out;omega
    unfold nv at c0 c1;clear hg hR hx hc;go_wp2_with fail;go_roundw
    case rel=>exact⟨i+1,by simp,by omega,qa hbr _,jB.alloc _⟩
    case measure=>simp[intOf];omega
  ·obtain rfl:i=L.holds.length:=by omega
   go_upto_region 9 with fail;go_quiet (fail);go_upto_region 11 with fail;obtain⟨W,hW⟩:∃ W:Aa,W=wr.drewN nq:=⟨_,rfl⟩;rw[<-hW];have hbW:Ae w.heap.size w W:=by rw[hW];exact zh hbr _
   have jB:Am W w.heap.size #[I Z p,I Z v] 131:=by rw[hW];exact jB.drewN _
   have jL:=j.below hbW j.lt;clear hW hR cL sL cB sB;have cL:=jL.cell;have sL:=jL.lt;have cB:=jB.cell;have sB:=jB.lt;have rn:=(HI.out.rh.below hbW).below (qa (qe (qc W)) (.cells #[I Z p,I Z v] 131));have jn:=Am.new W.drew #[I Z p,I Z v] 131;have hone:=yn [(p,v)];have hkeep:=fun (w1:Aa) (o1:Own) (hst:Stp (fun t=>t=(id,k+3)) o o1 (W.drew.alloc (.cells #[I Z p,I Z v] 131)) w1)=>(Am.alloc (qi jL) (.cells #[I Z p,I Z v] 131)).Ao hst (by rw[HI.out.ob];simp)
   have hfin:=Qa (fun (w1:Aa) (o1:Own) (pa':Option Addr) (cp':Nat) (hown:Row w1 o1 (id,k+3) 131 2 (.slice pa' (L.holds.length+1) cp') (L.holds.length+1) (qg L.holds++[I Z p,I Z v])) (hst:Stp (fun t=>t=(id,k+3)) o o1 (W.drew.alloc (.cells #[I Z p,I Z v] 131)) w1) =>
    show ∃ vh' o',Bq (w1.setCell ⟨b,4,none⟩ (.slice pa' (L.holds.length+1) cp')) o' id k b { L with holds:=L.holds++[(p,v)] } vr vk vh' vu/\Stp (fun t=>t=(id,k)\/t=(id,k+3)) o o' w (w1.setCell ⟨b,4,none⟩ (.slice pa' (L.holds.length+1) cp')) from by
     have h:=HI.out;have hlt:b<(W.drew.alloc (.cells #[I Z p,I Z v] 131)).heap.size:=(Am.alloc (qi jL) _).lt;have ho1:o1 b=(id,k):=by rw[hst.tags b hlt];exact h.ob
     have k1:Stp (fun t=>t=(id,k)) o1 o1 w1 (w1.setCell ⟨b,4,none⟩ (.slice pa' (L.holds.length+1) cp')):=(Stp.refl _ o1 w1).setCell (by simpa using ho1) _
     have S:Stp (fun t=>t=(id,k)\/t=(id,k+3)) o o1 w (w1.setCell ⟨b,4,none⟩ (.slice pa' (L.holds.length+1) cp')):=
      (Stp.of_below (hbW.trans ((qa (qe (qc W)) _).mono hbW.size))).trans ((hst.mono fun _ e=>Or.inr e).trans (k1.mono fun _ e=>Or.inl e))
     refine⟨_,o1,⟨(hkeep _ _ hst).set 4 _,h.rr.Ao S (by simp),h.rk.Ao S (by simp),?_,h.ru.Ao S (by simp),ho1⟩,S⟩
     have hr:=hown.Ao k1 (by simp)
     show Row _ o1 (id,k+3) 131 2 _ (L.holds++[(p,v)]).length (qg (L.holds++[(p,v)]));rw[gi];simpa [nv] using hr)
   go_region_law ((refine zj _ (by rfl) _ _ _ (by rfl) 131 iU _ 2 16 hu64 hi hzI hsI hyI (by rfl) (by decide) o (id,k+3) _ _ _ (by rfl) rn ⟨W.heap.size,0,none⟩ 1 1 [I Z p,I Z v] (by rfl) (by rfl) (pw jn) hone hw.out.1 hw.out.2 ?_;intro v' w1 hown hst;obtain⟨pa',cp',rfl⟩:=hown.AY;have jX:=hkeep _ _ hst;have cX:=jX.cell;have zX:=jX.free;have sX:=jX.lt))
   all_goals
    go_wp2_with fail;go_ret;exact⟨rfl,hfin.out _ _ _ _ hown hst⟩
theorem bh (h:Bq w o id k b L vr vk vh vu)(hk:L.ok)(p v:Nat)(hp:∀ x ∈ L.holds,x.1≠p)(hm:L.mu<=L.holds.length) :
  Ab Tryz.prog 168 #[Ag (some ⟨b,0,none⟩),Ak #[I Z p,I Z v]] w fun e w'=>e=O (.bool false)/\Ae w.heap.size w w':=by
 have HI:=Qa h;have HP:=Qa hp;have j:=h.AU;have c:=h.AU.cell;have s:=h.AU.lt;obtain⟨pa,cp,rfl⟩:=h.rh.AY;have hng:(L.mu:Int)<=(L.holds.length:Int):=by omega
 have hlen:=Qa (show L.holds.length<=200 by have:=hk.h;have:=hk.mu;omega)
 clear h hk hm hp;go_enter Tryz.func168,Tryz.ntmps168;go_wp2_with fail;go_loopw [14](fun ix wr=>∃ i:Nat,ix=I Z i/\i<=L.holds.length/\Ae w.heap.size w wr/\Am wr w.heap.size #[I Z p,I Z v] 131)(fun ix _=>L.holds.length-(intOf ix).toNat)
 case atStart=>exact⟨0,rfl,by omega,qa (qc w) _,Am.new w _ _⟩
 case round =>
  obtain⟨i,rfl,hil,hbr,jB⟩:=hrel;clear c s;have jL:=j.below hbr j.lt;have cL:=jL.cell;have sL:=jL.lt;have cB:=jB.cell;have sB:=jB.lt;have hR:=HI.out.rh.below hbr;by_cases hlt:i<L.holds.length
  ·obtain⟨x,hx⟩:∃ x,L.holds[i]?=some x:=⟨_,Qb hlt⟩
   have hne:(x.1:Int)≠(p:Int):=by have:=HP.out x (Qe hx);omega
   rcases hR.own.2 with ⟨e1,e2⟩|⟨g,cap,cur,e1,_,hg,hn,hc,_⟩
   ·omega
   ·injection e1 with e1 _ e2
    subst e1 e2;obtain⟨c0,c1⟩:=hR.ET i x hx;have sg:g<wr.heap.size:=(Qf.1 hg).1;have hI:(i:Int)<(L.holds.length:Int):=by omega
    have hI2:(i:Int)<200:=by have:=hlen.out;omega
    unfold nv at c0 c1;clear hg hR hx hc;go_wp2_with fail;go_roundw
    case rel=>exact⟨i+1,by simp,by omega,qa hbr _,jB.alloc _⟩
    case measure=>simp[intOf];omega
  ·obtain rfl:i=L.holds.length:=by omega
   go_upto_region 9 with fail;go_quiet (fail);go_wp2_with fail;go_ret;exact⟨rfl,zh hbr _⟩
theorem VC (n:Nat)(h:n<=200)(w:Aa):Ab Tryz.prog 166 #[I Z n] w fun e w'=>e=O (I Z n)/\w=w':=by
 have e1:max (n:Int) 0=n:=by omega
 have e2:min (n:Int) 200=n:=by omega
 go_enter Tryz.func166,Tryz.ntmps166;go_wp2_with fail;go_ret;exact⟨rfl,rfl⟩
def Lg.fresh (mr mu:Nat):Lg:=⟨mr,mu,[],[],[],[]⟩
theorem Lw (mr mu:Nat)(h1:mr<=200)(h2:mu<=200)(w:Aa) :
  Ab Tryz.prog 104 #[I Z mr,I Z mu] w fun e w'=>e=O (Ag (some ⟨w.heap.size,0,none⟩)) /\
   Am w' w.heap.size #[I Z mr,I Z mu,Ah none 0 0,Ah none 0 0,Ah none 0 0,Ah none 0 0] 219/\Ae w.heap.size w w'/\w'.heap.size=w.heap.size+1:=by
 have H1:=Qa (fun w=>VC mr h1 w)
 have H2:=Qa (fun w=>VC mu h2 w)
 go_enter Tryz.func104,Tryz.ntmps104;go_wp2_with fail;refine (H1.out _).mono ?_
 rintro e w1 ⟨rfl,rfl⟩
 go_wp2_with fail;refine (H2.out _).mono ?_
 rintro e w1 ⟨rfl,rfl⟩
 go_wp2_with fail;go_ret;exact⟨rfl,Am.Aq _ _ _ _ _ rfl (by simp),qa (qc w) _,by simp⟩
end
theorem run_equalIn_nil_nil {P:Program}(w:Aa)(d:Nat)(t:TypeId){ps rs:Array TypeId}{b:Bool}(h:P.underlying t=some (.func ps rs b)):(Op.equalIn (d+1) t .nilFunc .nilFunc).run P w=.ok true w:=by simp[Op.equalIn,run_underlying h]
theorem fg {P:Program}(w:Aa)(d:Nat)(t:TypeId){ps rs:Array TypeId}{b:Bool}(f:Fn)(a c:Array Ac)(h:P.underlying t=some (.func ps rs b)):(Op.equalIn (d+1) t (.func f a c) .nilFunc).run P w=.ok false w:=by simp[Op.equalIn,run_underlying h]
theorem run_neq_nil_nil {P:Program}(w:Aa)(t:TypeId){ps rs:Array TypeId}{b:Bool}(h:P.underlying t=some (.func ps rs b)):(binOp .neq t .nilFunc .nilFunc).run P w=.ok (.bool false) w:=by
 have h1:(Op.equal t .nilFunc .nilFunc).run P w=.ok true w:=run_equalIn_nil_nil w 9999 t h;simp only[binOp];simp[h1]
theorem um {P:Program}(w:Aa)(t:TypeId){ps rs:Array TypeId}{b:Bool}(f:Fn)(a c:Array Ac)(h:P.underlying t=some (.func ps rs b)):(binOp .neq t (.func f a c) .nilFunc).run P w=.ok (.bool true) w:=by
 have h1:(Op.equal t (.func f a c) .nilFunc).run P w=.ok false w:=fg w 9999 t f a c h;simp only[binOp];simp[h1]
structure Dl (w:Aa)(o:Own)(l:Ba)(cy n:Nat)(rd ls:List Nat):Prop where
 AU:∃ vr vl,Am w cy #[ptr l.h,Ff cy n,vr,vl] 201/\Row w o (l.id,8) 3 1 vr rd.length (rd.map nv)/\Row w o (l.id,9) 3 1 vl ls.length (ls.map nv)
 oc:o cy=(l.id,7)
section
variable {w w' : Aa} {o o' : Own} {l : Ba} {cy n : Nat} {rd ls : List Nat}
theorem Dl.Ao {T:Tag->Prop}(h:Dl w o l cy n rd ls)(hs:Stp T o o' w w')(h7:¬T (l.id,7))(h8:¬T (l.id,8))(h9:¬T (l.id,9)):Dl w' o' l cy n rd ls:=by
 obtain⟨vr,vl,hb,h1,h2⟩:=h.AU;exact⟨⟨vr,vl,hb.Ao hs (by rw[h.oc];exact h7),h1.Ao hs h8,h2.Ao hs h9⟩,(hs.tags _ hb.lt).trans h.oc⟩
theorem uk (h:Dl w o l cy n rd ls)(hn:n<=2):Ab Tryz.prog 60 #[ptr cy] w fun e w'=>e=O (.bool (decide (n≠0)))/\w=w':=by
 obtain⟨vr,vl,hb,_,_⟩:=h.AU;have c:=hb.cell;clear h hb;obtain rfl|rfl|rfl:n=0\/n=1\/n=2:=by omega
 ·have c1:w.cell? ⟨cy,1,none⟩=some .nilFunc:=c 1
  have hne:=run_neq_nil_nil w 23 Tryz.underlying23;clear c;go_enter Tryz.func60,Tryz.ntmps60;go_wp2_with fail;go_ret;exact⟨rfl,rfl⟩
 ·have c1:w.cell? ⟨cy,1,none⟩=some (.func (.func 126) #[ptr cy] #[]):=c 1
  have hne:=um w 23 (.func 126) #[ptr cy] #[] Tryz.underlying23;clear c;go_enter Tryz.func60,Tryz.ntmps60;go_wp2_with fail;go_ret;exact⟨rfl,rfl⟩
 ·have c1:w.cell? ⟨cy,1,none⟩=some (.func (.func 190) #[ptr cy] #[]):=c 1
  have hne:=um w 23 (.func 190) #[ptr cy] #[] Tryz.underlying23;clear c;go_enter Tryz.func60,Tryz.ntmps60;go_wp2_with fail;go_ret;exact⟨rfl,rfl⟩
theorem JL {H:Hp}(h:Bu w o l H)(hk:H.ok)(p:Nat) :
  Ab Tryz.prog 173 #[ptr l.h,I Z p] w fun e w'=>e=O (I Z ((H.AA p).2:Nat))/\∃ o',Bu w' o' l (H.AA p).1/\Stp (zd l) o o' w w':=by
 obtain⟨vc,vo,vw,vf,f,hh⟩:=h;refine (dr hh hk p).mono ?_
 rintro e w'⟨rfl,vc',f',o',h',hs⟩
 exact⟨rfl,o',⟨vc',vo,vw,vf,f',h'⟩,hs⟩
theorem u5 (k n:Nat)(h:k<n)(hn:n<=1099511627776):wrap64 ((k:Int)+1)=(k:Int)+1/\IntKind.i64.wrap ((k:Int)+1)=(k:Int)+1:=by
 have h1:(-9223372036854775808:Int)<=(k:Int)+1/\(k:Int)+1<=9223372036854775807:=by omega
 exact⟨IntWalk.wrap64_in _ h1,IntWalk.i64_in _ h1⟩
theorem G8 (k n:Nat)(h:k<n)(hn:n<=8796093022208):wrap64 ((k:Int)+1)=(k:Int)+1/\IntKind.i64.wrap ((k:Int)+1)=(k:Int)+1:=by
 have h1:(-9223372036854775808:Int)<=(k:Int)+1/\(k:Int)+1<=9223372036854775807:=by omega
 exact⟨IntWalk.wrap64_in _ h1,IntWalk.i64_in _ h1⟩
theorem KN (k n:Nat)(h:k<n)(hn:n<=8796093022208):k+1<=maxLen/\(k+1)*8<=140737488355328:=by
 simp only[maxLen];omega
def hOr (l:Ba)(tg:Tag)(t:Tag):Prop:=zd l t\/t=tg
theorem X7 {H:Hp}(hH:Bu w o l H)(hk:H.wf){vp vr vl:Ac}(jc:Am w cy #[ptr l.h,vp,vr,vl] 201)(oc:o cy=(l.id,7)){v:Ac}{ps:List Nat}{ta:Tag}(hv:Row w o ta 3 1 v ps.length (ps.map nv))(hp:ps.length<=8796093022208)
  (tg:Tag)(na:¬zd l ta)(ng:¬zd l tg)(nag:ta≠tg)(n7:tg≠(l.id,7)) :
  Ab Tryz.prog 127 #[ptr cy,v] w fun e w'=>∃ v' o',e=O v'/\Bu w' o' l (H.As ps).1/\Row w' o' tg 3 1 v' ps.length ((H.As ps).2.map nv)/\Stp (hOr l tg) o o' w w':=by
 obtain⟨iI,hi,hsI,hyI,hzI⟩:=zi;have hu64:=Tryz.underlying25;have n7h:¬zd l (l.id,7):=fun hh=>by have:=hh.2;simp at this
 have HV:=Qa hv;have HJ:=Qa jc;have HH:=Qa hH;have HK:=Qa hk;have HP:=Qa hp;have HO:=Qa oc;have HNA:Hid (¬hOr l tg ta):=fun h=>h.elim na nag
 have HN7:Hid (¬hOr l tg (l.id,7)):=fun h=>h.elim n7h fun e=>n7 e.symm
 obtain⟨pa,cp,rfl⟩:=hv.AY;obtain⟨n',hn'⟩:∃ n',n'=ps.length:=⟨_,rfl⟩;have HN:=Qa hn';rw[<-hn']at HV ⊢;clear hv jc hH hk hp oc hn';go_enter Tryz.func127,Tryz.ntmps127;go_wp2_with fail;go_loopw [5,7,10] (fun vv _ ix wr=>∃ (k:Nat)(oo:Own),ix=I Z k/\k<=n'/\Bu wr oo l (H.As (ps.take k)).1/\Row wr oo tg 3 1 vv k ((H.As (ps.take k)).2.map nv)/\Stp (hOr l tg) o oo w wr) (fun _ _ ix _=>n'-(intOf ix).toNat)
 case atStart=>exact⟨0,o,rfl,Nat.zero_le _,HH.out,Row.nil _ _ _ _ _,Stp.refl _ _ _⟩
 case round =>
  obtain⟨k,oo,rfl,hkn,hA,hr,hs⟩:=hrel;have jk:=HJ.out.Ao hs (by rw[HO.out];exact HN7.out)
  have hvk:=HV.out.Ao hs HNA.out;have c:=jk.cell;by_cases hlt:k<n'
  ·have hkI:(k:Int)<(n':Int):=by omega
   obtain⟨x,hx⟩:∃ x,ps[k]?=some x:=⟨_,Qb (by rw[<-HN.out];omega)⟩
   have hsn:=yz (ps.take k) x H;rw[<-jj hx]at hsn;have HSN:=Qa hsn;have hM:=Qa (JL hA (Hp.Cb (ps.take k) HK.out).ok x);obtain⟨hw1,hw2⟩:=G8 k n' hlt (by rw[HN.out];exact HP.out)
   have hRR:=Qa hr;have HSS:=Qa hs;have hk1:Hid (k+1<=maxLen/\(k+1)*8<=140737488355328):=KN k n' hlt (by rw[HN.out];exact HP.out)
   obtain⟨pv,cv,rfl⟩:=hr.AY;rcases hvk.form with ⟨_,h0⟩|⟨g,cap,e,hcap⟩
   ·omega
   ·injection e with e1 _ e3
    subst e1 e3;have q0:wr.cell? ⟨g,k,none⟩=some (I Z x):=hvk.cells k _ (by rw[Qj,hx];rfl)
    clear hA hr hs hsn hvk hx;generalize H.As (ps.take k)=r at *;obtain⟨Hk,lk'⟩:=r;go_wp2_with fail;refine hM.out.mono ?_
    rintro e w3 ⟨rfl,o3,h3,hs3⟩
    have hR3:=Qa (hRR.out.Ao hs3 ng);go_wp2_with (first|(at_builtin;refine qf _ rfl _ _ _ rfl 3 iI _ 1 8 hu64 hi hzI hsI hyI rfl (by decide) o3 tg _ _ _ rfl (Row.below hR3.out (qa (qc w3) _)) ⟨w3.heap.size,0,none⟩ 1 1 [I Z (Hk.AA x).2] rfl rfl (qx (Am.new w3 _ _)) zw hk1.out.1 hk1.out.2 ?_;intro v' w8 hown hst)|fail)
    have hb8:=qa (qc w3) (.cells #[I Z (Hk.AA x).2] 3);have h8:=h3.Ao (Stp.of_below (T:=fun _=>False) hb8) fun _ _ h=>h
    have h9:=h8.Ao hst fun j hj e=>ng (by rw[<-e];exact⟨rfl,by simp;omega⟩)
    have s9:=((HSS.out.trans (hs3.mono fun _ h=>Or.inl h)).trans (Stp.of_below hb8)).trans (hst.mono fun _ h=>Or.inr h)
    go_roundw
    case rel=>exact⟨k+1,_,by simp,by omega,by rw[HSN.out];exact h9,by rw[HSN.out,ko];exact hown,s9⟩
    case measure=>simp[intOf];omega
  ·obtain rfl:k=n':=by omega
   rw[HN.out,List.take_length]at hA hr;rw[<-HN.out]at hr;obtain⟨pv,cv,rfl⟩:=hr.AY;go_wp2_with fail;go_ret;exact⟨_,oo,rfl,hA,hr,hs⟩
end
section
variable {w w' : Aa} {o o' : Own} {l : Ba} {cy n : Nat} {rd ls : List Nat}
def Fe (l:Ba)(t:Tag):Prop:=t.1=l.id/\(t.2<=7\/t.2=8\/t.2=9)
theorem bk {l:Ba}{t:Tag}(h:zd l t):Fe l t:=⟨h.1,.inl (by have:=h.2;omega)⟩
theorem qme {H:Hp}(h:Bu w o l H)(hw:H.wf) :
  Ab Tryz.prog 189 #[ptr l.h] w fun e w'=>∃ v o',e=O v/\Bu w' o' l H.A1.1/\Stp (zd l) o o' w w'/\Row w' o' (Di l) 3 1 v H.A1.2.length (H.A1.2.map nv):=by
 obtain⟨vc,vo,vw,vf,f,hh⟩:=h;refine (qi8 hh hw).mono ?_
 rintro e w'⟨v,vc',vf',f',o',rfl,h',hs,hr⟩
 exact⟨v,o',rfl,⟨vc',vo,vw,vf',f',h'⟩,hs,hr⟩
theorem Lx {H:Hp}(h:Bu w o l H)(hw:H.wf) :
  Ab Tryz.prog 242 #[ptr l.h] w fun e w'=>∃ v o',e=O (Aj #[v,.bool H.drop.2.2])/\Bu w' o' l H.drop.1/\Stp (zd l) o o' w w'/\Row w' o' (Di l) 3 1 v H.drop.2.1.length (H.drop.2.1.map nv):=by
 obtain⟨vc,vo,vw,vf,f,hh⟩:=h;refine (J8 hh hw).mono ?_
 rintro e w'⟨v,vc',vo',vw',vf',f',o',rfl,h',hs,hr⟩
 exact⟨v,o',rfl,⟨vc',vo',vw',vf',f',h'⟩,hs,hr⟩
theorem Ta {n m:Nat}(hn:n<=1099511627776)(hm:m<=1099511627776):n+m<=maxLen/\(n+m)*8<=140737488355328:=by
 simp only[maxLen];omega
theorem Y6 {H:Hp}(hH:Bu w o l H)(hw:H.wf)(h:Dl w o l cy 2 rd ls)(h1:ls.length<=1099511627776)(h2:H.drop.2.1.length<=1099511627776) :
  Ab Tryz.prog 190 #[ptr cy] w fun e w'=>e=O (.bool true)/\∃ o',Bu w' o' l H.drop.1/\Dl w' o' l cy 0 rd (ls++H.drop.2.1)/\Stp (Fe l) o o' w w':=by
 obtain⟨iI,hi,hsI,hyI,hzI⟩:=zi;have hu64:=Tryz.underlying25;have n7:¬zd l (l.id,7):=fun hh=>by have:=hh.2;simp at this
 have n8:¬zd l (l.id,8):=fun hh=>by have:=hh.2;simp at this
 have n9:¬zd l (l.id,9):=fun hh=>by have:=hh.2;simp at this
 have HL:=Ta h1 h2;have HD:=Qa (Lx hH hw);obtain⟨vr,vl,jc,hr,hl⟩:=h.AU;have oc:=h.oc;have c:=jc.cell;generalize H.drop=D at *;obtain⟨H',lo,ok⟩:=D;simp only at HD HL ⊢;have HC:=Qa (fun (w5:Aa)(o5:Own)(hs:Stp (zd l) o o5 w w5)=>show Am w5 cy #[ptr l.h,Ff cy 2,vr,vl] 201/\o5 cy=(l.id,7)/\Row w5 o5 (l.id,8) 3 1 vr rd.length (rd.map nv)/\Row w5 o5 (l.id,9) 3 1 vl ls.length (ls.map nv) from
  ⟨jc.Ao hs (by rw[oc];exact n7),(hs.tags _ jc.lt).trans oc,hr.Ao hs n8,hl.Ao hs n9⟩)
 obtain⟨pl,cl,rfl⟩:=hl.AY;have HLs:=Qa HL;clear h hH hw hr hl h1 h2 HL;go_enter Tryz.func190,Tryz.ntmps190;go_wp2_with fail;refine HD.out.mono ?_
 rintro e w1 ⟨v,o1,rfl,hH1,hs1,hrow⟩
 obtain⟨pv,cv,rfl⟩:=hrow.AY;obtain⟨j1,oc1,r8,r9⟩:=HC.out _ _ hs1;have HH1:=Qa hH1;have HS1:=Qa hs1;have HR8:=Qa r8;have HJ1:=Qa j1;have HO1:=Qa oc1;clear c jc oc hH1 hs1 r8;have c:=j1.cell;have z:=j1.free;have s:=j1.lt;go_wp2_with (first|(at_builtin;refine zk _ rfl _ _ _ rfl 3 iI _ 1 8 hu64 hi hzI hsI hyI rfl (by decide) o1 (l.id,9) _ ls.length (ls.map nv) rfl r9 o1 (Di l) _ lo.length (lo.map nv) rfl hrow (bz _) HLs.out.1 HLs.out.2 ?_;intro v' w3 hown hst;obtain⟨pa,cp,rfl⟩:=hown.AY;have j3:=HJ1.out.Ao hst (by rw[HO1.out];simp);have c3:=j3.cell;have z3:=j3.free;have s3:=j3.lt)|fail)
 have hfin:=Qa (show ∃ o',Bu ((w3.setCell ⟨cy,3,none⟩ (.slice pa (ls.length+lo.length) cp)).setCell ⟨cy,1,none⟩ .nilFunc) o' l H'/\Dl ((w3.setCell ⟨cy,3,none⟩ (.slice pa (ls.length+lo.length) cp)).setCell ⟨cy,1,none⟩ .nilFunc) o' l cy 0 rd (ls++lo)/\Stp (Fe l) o o' w ((w3.setCell ⟨cy,3,none⟩ (.slice pa (ls.length+lo.length) cp)).setCell ⟨cy,1,none⟩ .nilFunc) from by
  have o3:ext o1 w1.heap.size (l.id,9) cy=(l.id,7):=(hst.tags _ HJ1.out.lt).trans HO1.out;have k:Stp (fun t=>t=(l.id,7)) (ext o1 w1.heap.size (l.id,9)) (ext o1 w1.heap.size (l.id,9)) w3 ((w3.setCell ⟨cy,3,none⟩ (.slice pa (ls.length+lo.length) cp)).setCell ⟨cy,1,none⟩ .nilFunc):=((Stp.refl _ _ w3).setCell (by show ext o1 w1.heap.size (l.id,9) cy=_;exact o3) _).setCell (by show ext o1 w1.heap.size (l.id,9) cy=_;exact o3) _
  have hs7:∀ j,j<=6->¬(l.id,j)=(l.id,7):=fun j hj=>by simp;omega
  have hs9:∀ j,j<=6->¬(l.id,j)=(l.id,9):=fun j hj=>by simp;omega
  have e1:(ls++lo).length=ls.length+lo.length:=Qd;refine⟨_,(HH1.out.Ao hst hs9).Ao k hs7,⟨⟨vr,.slice pa (ls.length+lo.length) cp,(j3.set 3 _).set 1 _,(HR8.out.Ao hst (by simp)).Ao k (by simp),?_⟩,o3⟩,
   ((HS1.out.mono fun _ h=>bk h).trans (hst.mono (by rintro _ rfl;exact⟨rfl,.inr (.inr rfl)⟩))).trans (k.mono (by rintro _ rfl;exact⟨rfl,.inl (Qk _)⟩))⟩
  rw[e1,Qw];exact hown.Ao k (by simp))
 go_wp2_with fail;go_ret;exact⟨rfl,hfin.out⟩
theorem Wv {H:Hp}(hH:Bu w o l H)(hw:H.wf)(h:Dl w o l cy 1 rd ls)(h1:rd.length<=1099511627776)(h2:H.A1.2.length<=1099511627776) :
  Ab Tryz.prog 126 #[ptr cy] w fun e w'=>e=O (.bool false)/\∃ o',Bu w' o' l H.A1.1/\Dl w' o' l cy 2 (rd++H.A1.2) ls/\Stp (Fe l) o o' w w':=by
 obtain⟨iI,hi,hsI,hyI,hzI⟩:=zi;have hu64:=Tryz.underlying25;have hmf:∀ (fn:Fn)(first cap:Array Ac)(w:Aa),(Instr.makeFunc fn first cap).run Tryz.prog w=.ok (.func fn first cap) w:=fun _ _ _ _=>rfl
 have n7:¬zd l (l.id,7):=fun hh=>by have:=hh.2;simp at this
 have n8:¬zd l (l.id,8):=fun hh=>by have:=hh.2;simp at this
 have n9:¬zd l (l.id,9):=fun hh=>by have:=hh.2;simp at this
 have HL:=Ta h1 h2;have HD:=Qa (qme (hH.Ao (T:=fun _=>False) (Stp.of_below (qe (qc w))) fun _ _ h=>h) hw)
 obtain⟨vr,vl,jc,hr,hl⟩:=h.AU;have oc:=h.oc;have c:=jc.cell;have s:=jc.lt;generalize H.A1=D at *;obtain⟨H',fi⟩:=D;simp only at HD HL ⊢;have HC:=Qa (fun (w5:Aa)(o5:Own)(hs:Stp (zd l) o o5 w.drew w5)=>show Am w5 cy #[ptr l.h,Ff cy 1,vr,vl] 201/\o5 cy=(l.id,7)/\Row w5 o5 (l.id,8) 3 1 vr rd.length (rd.map nv)/\Row w5 o5 (l.id,9) 3 1 vl ls.length (ls.map nv) from
  ⟨(qi jc).Ao hs (by rw[oc];exact n7),(hs.tags _ jc.lt).trans oc,(hr.below (qe (qc w))).Ao hs n8,(hl.below (qe (qc w))).Ao hs n9⟩)
 obtain⟨pl,cl,rfl⟩:=hr.AY;have HLs:=Qa HL;have hfin:=Qa (fun (w1:Aa)(o1:Own)(w3:Aa)(pa:Option Addr)(cp:Nat)(hH1:Bu w1 o1 l H')(hs1:Stp (zd l) o o1 w.drew w1)
   (hown:Row w3 (ext o1 w1.heap.size (l.id,8)) (l.id,8) 3 1 (.slice pa (rd.length+fi.length) cp) (rd.length+fi.length) (rd.map nv++fi.map nv))(hst:Stp (fun u=>u=(l.id,8)) o1 (ext o1 w1.heap.size (l.id,8)) w1 w3) =>
  show ∃ o',Bu ((w3.setCell ⟨cy,2,none⟩ (.slice pa (rd.length+fi.length) cp)).setCell ⟨cy,1,none⟩ (.func (.func 190) #[ptr cy] #[])) o' l H'/\Dl ((w3.setCell ⟨cy,2,none⟩ (.slice pa (rd.length+fi.length) cp)).setCell ⟨cy,1,none⟩ (.func (.func 190) #[ptr cy] #[])) o' l cy 2 (rd++fi) ls/\Stp (Fe l) o o' w ((w3.setCell ⟨cy,2,none⟩ (.slice pa (rd.length+fi.length) cp)).setCell ⟨cy,1,none⟩ (.func (.func 190) #[ptr cy] #[])) from by
  obtain⟨j1,oc1,r8,r9⟩:=HC.out _ _ hs1;have o3:ext o1 w1.heap.size (l.id,8) cy=(l.id,7):=(hst.tags _ j1.lt).trans oc1;have j3:=j1.Ao hst (by rw[oc1];simp)
  have k:Stp (fun t=>t=(l.id,7)) (ext o1 w1.heap.size (l.id,8)) (ext o1 w1.heap.size (l.id,8)) w3 ((w3.setCell ⟨cy,2,none⟩ (.slice pa (rd.length+fi.length) cp)).setCell ⟨cy,1,none⟩ (.func (.func 190) #[ptr cy] #[])):=((Stp.refl _ _ w3).setCell (by show ext o1 w1.heap.size (l.id,8) cy=_;exact o3) _).setCell (by show ext o1 w1.heap.size (l.id,8) cy=_;exact o3) _
  have hs7:∀ j,j<=6->¬(l.id,j)=(l.id,7):=fun j hj=>by simp;omega
  have hs8:∀ j,j<=6->¬(l.id,j)=(l.id,8):=fun j hj=>by simp;omega
  have e1:(rd++fi).length=rd.length+fi.length:=Qd;refine⟨_,(hH1.Ao hst hs8).Ao k hs7,⟨⟨.slice pa (rd.length+fi.length) cp,vl,(j3.set 2 _).set 1 _,?_,(r9.Ao hst (by simp)).Ao k (by simp)⟩,o3⟩,
   (((Stp.of_below (qe (qc w))).trans (hs1.mono fun _ h=>bk h)).trans (hst.mono (by rintro _ rfl;exact⟨rfl,.inr (.inl rfl)⟩))).trans (k.mono (by rintro _ rfl;exact⟨rfl,.inl (Qk _)⟩))⟩
  rw[e1,Qw];exact hown.Ao k (by simp))
 clear h hH hw hr hl h1 h2 HL oc;go_enter Tryz.func126,Tryz.ntmps126;go_upto_region 1 with fail;go_region_law (first
  | (refine ul _ (by rfl) _ _ _ (by rfl) 3 iI _ 1 8 hu64 hi hzI hsI hyI (by rfl) (by decide) o1 (l.id,8) _ rd.length (rd.map nv) (by rfl) r8 o1 (Di l) _ fi.length (fi.map nv) (by rfl) hrow (bz _) HLs.out.1 HLs.out.2 ?_;intro v' w3 hown hst;obtain⟨pa,cp,rfl⟩:=hown.AY;have j3:=j1.Ao hst (by rw[oc1];simp);have c3:=j3.cell;have z3:=j3.free;have s3:=j3.lt)
  | (go_simp;go_wp2_with ((go_at_call 189;refine HD.out.mono ?_;rintro e w1 ⟨v,o1,rfl,hH1,hs1,hrow⟩;obtain⟨pv,cv,rfl⟩:=hrow.AY;obtain⟨j1,oc1,r8,r9⟩:=HC.out _ _ hs1;have c1:=j1.cell;have s1:=j1.lt))))
 all_goals
  have HF:=Qa (hfin.out _ _ _ _ _ hH1 hs1 hown hst);go_wp2_with fail;go_ret;exact⟨rfl,HF.out⟩
end
section
variable {w w' : Aa} {o o' : Own} {l : Ba} {cy n : Nat} {rd ls : List Nat}
theorem KI {H:Hp}(h:Bu w o l H)(hk:H.ok)(hm:H.AF=false) :
  Ab Tryz.prog 125 #[ptr l.h] w fun e w'=>e=O (.bool true)/\Bu w' o l H.flip/\Stp (zd l) o o w w':=by
 obtain⟨vc,vo,vw,vf,f,hh⟩:=h;refine (Jr hh hk hm).mono ?_
 rintro e w'⟨rfl,h',hs⟩
 exact⟨rfl,⟨_,_,_,_,_,h'⟩,hs⟩
theorem qj8 {vp vl vr:Ac}(jc:Am w cy #[ptr l.h,vp,vr,vl] 201)(a:Option Addr)(c0:Nat) :
  Ab Tryz.prog 127 #[ptr cy,.slice a 0 c0] w fun e w'=>e=O (Ah none 0 0)/\w=w':=by
 have c:=jc.cell;clear jc;go_enter Tryz.func127,Tryz.ntmps127;go_wp2_with fail;go_loopw [5,7,10](fun vv _ ix wr=>vv=Ah none 0 0/\ix=I Z 0/\wr=w)(fun _ _ _ _=>0)
 case atStart=>exact⟨rfl,rfl,rfl⟩
 case round =>
  obtain⟨rfl,rfl,rfl⟩:=hrel;go_wp2_with fail;go_ret;exact⟨rfl,rfl⟩
end
section
variable {w w' : Aa} {o o' : Own} {l : Ba} {cy n : Nat} {rd ls : List Nat}
theorem qn3 {vr vl:Ac}(hb:Am w cy #[ptr l.h,Ff cy n,vr,vl] 201)(oc:o cy=(l.id,7))(h1:Row w o (l.id,8) 3 1 vr rd.length (rd.map nv)) :
  Ab Tryz.prog 68 #[ptr cy] w fun e w'=>e=O vr/\Row w' o (l.id,8) 3 1 vr rd.length (rd.map nv)/\Am w' cy #[ptr l.h,Ff cy n,Ah none 0 0,vl] 201/\Stp (fun t=>t=(l.id,7)) o o w w':=by
 have hfin:=Qa (show Row (w.setCell ⟨cy,2,none⟩ (Ah none 0 0)) o (l.id,8) 3 1 vr rd.length (rd.map nv)/\Am (w.setCell ⟨cy,2,none⟩ (Ah none 0 0)) cy #[ptr l.h,Ff cy n,Ah none 0 0,vl] 201/\Stp (fun t=>t=(l.id,7)) o o w (w.setCell ⟨cy,2,none⟩ (Ah none 0 0)) from by
  have k:Stp (fun t=>t=(l.id,7)) o o w (w.setCell ⟨cy,2,none⟩ (Ah none 0 0)):=(Stp.refl _ o w).setCell (by show o cy=_;exact oc) _
  exact⟨h1.Ao k (by simp),hb.set 2 _,k⟩)
 obtain⟨pa,cp,rfl⟩:=h1.AY;have c:=hb.cell;have z:=hb.free;have s:=hb.lt;clear h1;go_enter Tryz.func68,Tryz.ntmps68;go_wp2_with fail;go_ret;exact⟨rfl,hfin.out⟩
theorem GZ {vr vl:Ac}(hb:Am w cy #[ptr l.h,Ff cy n,vr,vl] 201)(oc:o cy=(l.id,7))(h2:Row w o (l.id,9) 3 1 vl ls.length (ls.map nv)) :
  Ab Tryz.prog 71 #[ptr cy] w fun e w'=>e=O vl/\Row w' o (l.id,9) 3 1 vl ls.length (ls.map nv)/\Am w' cy #[ptr l.h,Ff cy n,vr,Ah none 0 0] 201/\Stp (fun t=>t=(l.id,7)) o o w w':=by
 have hfin:=Qa (show Row (w.setCell ⟨cy,3,none⟩ (Ah none 0 0)) o (l.id,9) 3 1 vl ls.length (ls.map nv)/\Am (w.setCell ⟨cy,3,none⟩ (Ah none 0 0)) cy #[ptr l.h,Ff cy n,vr,Ah none 0 0] 201/\Stp (fun t=>t=(l.id,7)) o o w (w.setCell ⟨cy,3,none⟩ (Ah none 0 0)) from by
  have k:Stp (fun t=>t=(l.id,7)) o o w (w.setCell ⟨cy,3,none⟩ (Ah none 0 0)):=(Stp.refl _ o w).setCell (by show o cy=_;exact oc) _
  exact⟨h2.Ao k (by simp),hb.set 3 _,k⟩)
 obtain⟨pa,cp,rfl⟩:=h2.AY;have c:=hb.cell;have z:=hb.free;have s:=hb.lt;clear h2;go_enter Tryz.func71,Tryz.ntmps71;go_wp2_with fail;go_ret;exact⟨rfl,hfin.out⟩
theorem Ws {H:Hp}(hH:Bu w o l H)(hw:H.wf)(hm:H.AF=false)(jc:Am w cy #[ptr l.h,.nilFunc,Ah none 0 0,Ah none 0 0] 201)(oc:o cy=(l.id,7)){v:Ac}{ps:List Nat}{ta:Tag}(hv:Row w o ta 3 1 v ps.length (ps.map nv))(hp:ps.length<=8796093022208)
  (tg:Tag)(na:¬Fe l ta)(ng:¬Fe l tg)(nag:ta≠tg) :
  Ab Tryz.prog 62 #[ptr cy,v] w fun e w'=>∃ v' o',e=O (Aj #[v',.bool true])/\Bu w' o' l (H.flip.As ps).1/\Am w' cy #[ptr l.h,.func (.func 126) #[ptr cy] #[],Ah none 0 0,Ah none 0 0] 201/\Row w' o' tg 3 1 v' ps.length ((H.flip.As ps).2.map nv)/\Stp (fun t=>Fe l t\/t=tg) o o' w w':=by
 have hmf:∀ (fn:Fn)(first cap:Array Ac)(w:Aa),(Instr.makeFunc fn first cap).run Tryz.prog w=.ok (.func fn first cap) w:=fun _ _ _ _=>rfl
 have n7:¬zd l (l.id,7):=fun hh=>by have:=hh.2;simp at this
 have n8:¬zd l (l.id,8):=fun hh=>by have:=hh.2;simp at this
 have n9:¬zd l (l.id,9):=fun hh=>by have:=hh.2;simp at this
 have c7:Fe l (l.id,7):=⟨rfl,.inl (Qk _)⟩;have c9:Fe l (l.id,9):=⟨rfl,.inr (.inr rfl)⟩;have hwf:H.flip.wf:=Hp.Eu hw hm;have c:=jc.cell;have hne:=run_neq_nil_nil w 23 Tryz.underlying23;have HFl:=Qa (KI hH hw.ok hm)
 have HMv:=Qa (fun w2 (h2:Bu w2 o l H.flip)(j2:Am w2 cy #[ptr l.h,.func (.func 126) #[ptr cy] #[],Ah none 0 0,Ah none 0 0] 201)(v2:Row w2 o ta 3 1 v ps.length (ps.map nv)) =>
  X7 h2 hwf j2 oc v2 hp tg (fun h=>na (bk h)) (fun h=>ng (bk h)) nag (fun e=>ng (by rw[e];exact c7)))
 have H1:=Qa (fun w1 (hs1:Stp (zd l) o o w w1)(hH1:Bu w1 o l H.flip)=>show Am w1 cy #[ptr l.h,.nilFunc,Ah none 0 0,Ah none 0 0] 201/\Bu (w1.setCell ⟨cy,1,none⟩ (.func (.func 126) #[ptr cy] #[])) o l H.flip /\
   Am (w1.setCell ⟨cy,1,none⟩ (.func (.func 126) #[ptr cy] #[])) cy #[ptr l.h,.func (.func 126) #[ptr cy] #[],Ah none 0 0,Ah none 0 0] 201 /\
   Row (w1.setCell ⟨cy,1,none⟩ (.func (.func 126) #[ptr cy] #[])) o ta 3 1 v ps.length (ps.map nv) /\
   Stp (Fe l) o o w (w1.setCell ⟨cy,1,none⟩ (.func (.func 126) #[ptr cy] #[])) from by
  have k:Stp (fun t=>t=(l.id,7)) o o w1 (w1.setCell ⟨cy,1,none⟩ (.func (.func 126) #[ptr cy] #[])):=(Stp.refl _ o w1).setCell (by show o cy=_;exact oc) _
  have j1:=jc.Ao hs1 (by rw[oc];exact n7)
  exact⟨j1,hH1.Ao k fun j hj=>by simp;omega,j1.set 1 _,(hv.Ao hs1 fun h=>na (bk h)).Ao k (fun e=>na (by rw[e];exact c7)),(hs1.mono fun _ h=>bk h).trans (k.mono (by rintro _ rfl;exact c7))⟩)
 have OC:=Qa oc;have NG:=Qa (show ¬hOr l tg (l.id,7) from fun h=>h.elim n7 fun e=>ng (by rw[<-e];exact c7))
 have NT:=Qa (show tg≠(l.id,7) from fun e=>ng (by rw[e];exact c7))
 have C7:=Qa c7;obtain⟨pv,cv,rfl⟩:=hv.AY;generalize ps.length=np at *;generalize H.flip.As ps=MV at *;obtain⟨H2,qs⟩:=MV;simp only at HMv ⊢;clear hH hw hm hv hp na ng nag hwf oc jc n7 n8 n9 c7 c9;go_enter Tryz.func62,Tryz.ntmps62;go_wp2_with fail;refine HFl.out.mono ?_
 rintro e w1 ⟨rfl,hH1,hs1⟩
 obtain⟨j1,hH2,j2,hv2,hs2⟩:=H1.out _ hs1 hH1;have c1:=j1.cell;have z1:=j1.free;have s1:=j1.lt;clear c hne;go_upto_region 5 with fail;obtain⟨W2,hW2⟩:∃ W:Aa,W=w1.setCell ⟨cy,1,none⟩ (.func (.func 126) #[ptr cy] #[]):=⟨_,rfl⟩;rw[<-hW2]at hH2 j2 hv2 hs2 ⊢;have HM2:=Qa (HMv.out _ hH2 j2 hv2);clear hW2 j1 c1 z1 s1 hs1 hH1 hH2 hv2 HMv H1;go_wp2_with fail;refine HM2.out.mono ?_
 rintro e w3 ⟨v3,o3,rfl,hH3,hr3,hs3⟩
 obtain⟨p3,c3,rfl⟩:=hr3.AY;have j3:=j2.Ao hs3 (by rw[OC.out];exact NG.out)
 have oc3:o3 cy=(l.id,7):=(hs3.tags _ j2.lt).trans OC.out;have HN:=Qa (qj8 j3 none 0)
 have hfin:=Qa (show Bu (w3.setCell ⟨cy,2,none⟩ (Ah none 0 0)) o3 l H2/\Am (w3.setCell ⟨cy,2,none⟩ (Ah none 0 0)) cy #[ptr l.h,.func (.func 126) #[ptr cy] #[],Ah none 0 0,Ah none 0 0] 201/\Row (w3.setCell ⟨cy,2,none⟩ (Ah none 0 0)) o3 tg 3 1 (.slice p3 np c3) np (qs.map nv)/\Stp (fun t=>Fe l t\/t=tg) o o3 w (w3.setCell ⟨cy,2,none⟩ (Ah none 0 0)) from by
  have k:Stp (fun t=>t=(l.id,7)) o3 o3 w3 (w3.setCell ⟨cy,2,none⟩ (Ah none 0 0)):=(Stp.refl _ o3 w3).setCell (by show o3 cy=_;exact oc3) _
  exact⟨hH3.Ao k fun j hj=>by simp;omega,j3.set 2 _,hr3.Ao k NT.out,
   ((hs2.mono fun _ h=>Or.inl h).trans (hs3.mono fun _ h=>h.elim (fun h=>Or.inl (bk h)) Or.inr)).trans (k.mono (by rintro _ rfl;exact Or.inl C7.out))⟩)
 have c:=j3.cell;have z:=j3.free;have s:=j3.lt;clear hH3 hr3 hs3 hs2 j2;go_wp2_with fail;refine HN.out.mono ?_
 rintro e w4 ⟨rfl,rfl⟩
 go_wp2_with fail;go_ret2;exact⟨_,o3,rfl,hfin.out⟩
end
end
end Go.Proofs.YteehgedabdchcaaGreat
