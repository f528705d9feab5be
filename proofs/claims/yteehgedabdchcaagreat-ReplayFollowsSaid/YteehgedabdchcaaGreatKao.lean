import Derived.Test.YteehgedabdchcaaGreatKan
import Derived.Test.YteehgedabdchcaaGreatKbt
set_option linter.all false
set_option maxRecDepth 1000000
set_option maxHeartbeats 0
open Go renaming World->Aa,Calls->Ab,Value->Ac
open Go.RowKit renaming Below->Ae
open Go.Value renaming int->I,pointer->Ag,slice->Ah,tuple->Aj,agg->Ak
open Go.IntKind renaming i64->Z
open Go.Ending renaming returned->O
open List renaming eq_nil_of_length_eq_zero->Ad,getD->af,mem_cons->ag
open Nat renaming zero_add->Ai,zero_le->ai
open Bool renaming eq_iff_iff->aa
open Go.Proofs.Tryz
open Go.Proofs.Tryz renaming prog->ARt
open Go.Obj renaming cells->ARu
namespace Go.Proofs.YteehgedabdchcaaGreat
section
open Go.RowKit Go.Lib Go.Shelf Hp
def qe1:Go.Shelf.Ren:=⟨fun|41=>139|n=>n,fun|22=>126|23=>131|4=>4|n=>n,fun|n=>n⟩
def rq:Go.Proofs.SlLaysE0.n41 ARt qe1:={
 mixed:=by kernel_rfl
 f41:=⟨Tryz.f139.name,by decide,func139.trans (congrArg some (by kernel_rfl))⟩
 t4:=underlying4
 a4:=isAgg4
 z4:=sizeOf4
 v4:=zeroValue4
 t22:=underlying126
 a22:=isAgg126
 z22:=sizeOf126
 v22:=zeroValue126 }
def qe2:Go.Shelf.Ren:=⟨fun|41=>200|n=>n,fun|22=>212|23=>175|4=>4|n=>n,fun|n=>n⟩
def rv:Go.Proofs.SlLaysE0.n41 ARt qe2:={
 mixed:=by kernel_rfl
 f41:=⟨Tryz.f200.name,by decide,func200.trans (congrArg some (by kernel_rfl))⟩
 t4:=underlying4
 a4:=isAgg4
 z4:=sizeOf4
 v4:=zeroValue4
 t22:=underlying212
 a22:=isAgg212
 z22:=sizeOf212
 v22:=zeroValue212 }
def info_parts {t:TypeId}{z:Ac}{s b:Nat}(h:((ARt.info? t).map fun i=>(i.zero,i.size,i.bytes))=some (some z,s,b)):∃ i,ARt.info? t=some i/\i.size=s/\i.bytes=b/\i.zero=some z:=by
 obtain⟨i,hi,he⟩:=Option.map_eq_some_iff.1 h;injection he with e1 e2;injection e2 with e2 e3;exact⟨i,hi,e2,e3,e1⟩
def YN:∃ i,ARt.info? 131=some i/\i.size=2/\i.bytes=16/\i.zero=some (Ak #[I Z 0,I Z 0]):=info_parts (by kernel_rfl)
def XN:∃ i,ARt.info? 175=some i/\i.size=4/\i.bytes=32/\i.zero=some (Ak #[I Z 0,I Z 0,I Z 0,I Z 0]):=info_parts (by kernel_rfl)
def fp {w w':Aa}{o:Own}{t:Tag}{e:TypeId}{size n:Nat}{v:Ac}{xs:List Ac}(h:w'.ownsRow w.1.size e size v n xs):Row w' (ext o w.1.size t) t e size v n xs:=by
 refine⟨⟨h.1,?_⟩,fun k hk=>?_⟩
 ·rcases h.2 with hv|⟨g,cap,cur,hv,hb,hg⟩
  ·exact .inl hv
  ·exact .inr ⟨g,cap,cur,hv,ai _,hg⟩
 ·rcases h.2 with ⟨rfl,_⟩|⟨g,cap,cur,rfl,hb,hg⟩
  ·simp[Value.ownBlock]at hk
  ·have:g=k:=by simpa [Value.ownBlock] using hk
   subst this;exact qz hb
section
variable {w : Aa} {o : Own} {t : Tag} {v : Ac} {n : Nat} {xs : List Ac}
def qk2 (h:Row w o t 131 2 v n xs)(hn:n<=100000)(h1:∀ u ∈ xs,u.oneCell'=true)(tg:Tag) :
  Ab ARt 139 #[v] w fun e w'=>∃ v',e=O v'/\Row w' (ext o w.1.size tg) tg 131 2 v' n xs/\Ae w.1.size w w':=by
 obtain⟨i,hi,hs,hb,hz⟩:=YN;rcases h.own.2 with⟨rfl,rfl⟩|⟨g,cap,cur,rfl,_⟩
 ·have hx:xs=[]:=Ad (by simpa using h.len)
  subst hx;refine (AnyE.slices_Clone_nil rq 0 0 w).mono ?_;rintro e w'⟨rfl,rfl⟩;exact⟨_,rfl,Row.nil _ _ _ _ _,qd _⟩
 ·refine (AnyE.slices_Clone rq i _ 2 16 hi hz hs hb rfl (by decide) sizeOf131 g 0 n cap xs w h.len (by simp only[maxLen];omega) (by omega) (fun j u hu=>?_) h1).mono ?_
  ·have:=h.own.cells (g:=g) rfl j u hu
   rw[Ai];rwa [show (⟨g,0,none⟩:Addr).add j=⟨g,j,none⟩ from by unfold Addr.add;split<;>simp_all]at this
  ·rintro e w'⟨v',rfl,ho,_,hb⟩
   exact⟨v',rfl,fp ho,hb⟩
def qlh (h:Row w o t 175 4 v n xs)(hn:n<=100000)(h1:∀ u ∈ xs,u.oneCell'=true)(tg:Tag) :
  Ab ARt 200 #[v] w fun e w'=>∃ v',e=O v'/\Row w' (ext o w.1.size tg) tg 175 4 v' n xs/\Ae w.1.size w w':=by
 obtain⟨i,hi,hs,hb,hz⟩:=XN;rcases h.own.2 with⟨rfl,rfl⟩|⟨g,cap,cur,rfl,_⟩
 ·have hx:xs=[]:=Ad (by simpa using h.len)
  subst hx;refine (AnyE.slices_Clone_nil rv 0 0 w).mono ?_;rintro e w'⟨rfl,rfl⟩;exact⟨_,rfl,Row.nil _ _ _ _ _,qd _⟩
 ·refine (AnyE.slices_Clone rv i _ 4 32 hi hz hs hb rfl (by decide) sizeOf175 g 0 n cap xs w h.len (by simp only[maxLen];omega) (by omega) (fun j u hu=>?_) h1).mono ?_
  ·have:=h.own.cells (g:=g) rfl j u hu
   rw[Ai];rwa [show (⟨g,0,none⟩:Addr).add j=⟨g,j,none⟩ from by unfold Addr.add;split<;>simp_all]at this
  ·rintro e w'⟨v',rfl,ho,_,hb⟩
   exact⟨v',rfl,fp ho,hb⟩
def Uv (h:Row w o t 3 1 v n xs)(hn:n<=100000)(h1:∀ u ∈ xs,u.oneCell'=true)(tg:Tag) :
  Ab ARt 63 #[v] w fun e w'=>∃ v',e=O v'/\Row w' (ext o w.1.size tg) tg 3 1 v' n xs/\Ae w.1.size w w':=by
 obtain⟨i,hi,hs,hb,hz⟩:=jh;rcases h.own.2 with⟨rfl,rfl⟩|⟨g,cap,cur,rfl,_⟩
 ·have hx:xs=[]:=Ad (by simpa using h.len)
  subst hx;refine (Tryz.slices_Clone_nil 0 0 w).mono ?_;rintro e w'⟨rfl,rfl⟩;exact⟨_,rfl,Row.nil _ _ _ _ _,qd _⟩
 ·refine (Tryz.slices_Clone i _ 1 8 hi hz hs hb rfl (by decide) sizeOf3 g 0 n cap xs w h.len (by simp only[maxLen];omega) (by omega) (fun j u hu=>?_) h1).mono ?_
  ·have:=h.own.cells (g:=g) rfl j u hu
   rw[Ai];rwa [show (⟨g,0,none⟩:Addr).add j=⟨g,j,none⟩ from by unfold Addr.add;split<;>simp_all]at this
  ·rintro e w'⟨v',rfl,ho,_,hb⟩
   exact⟨v',rfl,fp ho,hb⟩
def g8 (ps:List Nat)(h:Row w o t 3 1 v ps.length (ps.map nv))(hl:ps.length<=100000)(x:Nat)(z:Int)(hz:z=x) :
  Ab ARt 270 #[v,I Z z] w fun e w'=>e=O (.bool (decide (x ∈ ps)))/\w=w':=by
 subst hz;rcases h.form with⟨rfl,h0⟩|⟨g,cap,rfl,hn,hc,_,_⟩
 ·have:ps=[]:=Ad h0
  subst this;refine (Tryz.slices_Contains_int_empty none 0 x w).mono ?_;rintro e w'⟨rfl,rfl⟩;exact⟨by simp,rfl⟩
 ·refine (Tryz.slices_Contains_int g 0 ps.length cap (ps.map fun (p:Nat)=>(p:Int)) x w (by simp) (by omega) ?_).mono ?_
  ·intro j hj
   have hj':j<ps.length:=by simpa using hj
   rw[Ai];refine h.cells j _ ?_;rw[Qj,Qb hj'];simp[nv,af,Qb hj']
  ·rintro e w'⟨rfl,rfl⟩
   rw[List.take_of_length_le (by simp)]
   refine⟨?_,rfl⟩;have e:((ps.map fun (p:Nat)=>(p:Int)).contains (x:Int))=decide (x ∈ ps):=by
    rw[aa];simp only[List.contains_eq_mem,Qt,decide_eq_true_eq];exact⟨fun⟨a,ha,e⟩=>by rw[show x=a by omega];exact ha,fun h=>⟨x,h,rfl⟩⟩
   rw[e]
end
end
section
open Go.RowKit Hp
attribute [local go_sem ↓] Go.wp_at_zero Go.wp_at_succ
structure Un where
 kind:Nat
 pos:Nat
 i:Nat
 old:Int
structure Lg where
 mr:Nat
 mu:Nat
 reads:List Nat
 keeps:List Nat
 holds:List (Nat×Nat)
 Ay:List Un
structure Lg.ok (L:Lg):Prop where
 mr:L.mr<=200
 mu:L.mu<=200
 r:L.reads.length<=L.mr
 k:L.keeps.length<=L.mr
 h:L.holds.length<=L.mu
 u:L.Ay.length<=L.mu
def qk:List (Nat×Nat)->List Ac
 | []=>[]
 | x::l=>nv x.1::nv x.2::qk l
def zk:List Un->List Ac
 | []=>[]
 | x::l=>nv x.kind::nv x.pos::nv x.i::I Z x.old::zk l
def fx (l:List (Nat×Nat))(x:Nat×Nat):qk (l++[x])=qk l++[nv x.1,nv x.2]:=by
 induction l with
 | nil=>rfl
 | cons y l ih=>simp[qk,ih]
def qim (l:List Un)(x:Un):zk (l++[x])=zk l++[nv x.kind,nv x.pos,nv x.i,I Z x.old]:=by
 induction l with
 | nil=>rfl
 | cons y l ih=>simp[zk,ih]
def ug (l:List (Nat×Nat)):∀ u ∈ qk l,u.oneCell'=true:=by
 induction l with
 | nil=>intro u hu;simp[qk]at hu
 | cons y l ih =>
  intro u hu;simp only[qk,ag]at hu;rcases hu with rfl|rfl|hu
  ·rfl
  ·rfl
  ·exact ih u hu
def XI (l:List Un):∀ u ∈ zk l,u.oneCell'=true:=by
 induction l with
 | nil=>intro u hu;simp[zk]at hu
 | cons y l ih =>
  intro u hu;simp only[zk,ag]at hu;rcases hu with rfl|rfl|rfl|rfl|hu
  ·rfl
  ·rfl
  ·rfl
  ·rfl
  ·exact ih u hu
def MK (l:List Nat):∀ u ∈ l.map nv,u.oneCell'=true:=by
 intro u hu;obtain⟨x,_,rfl⟩:=Qt.1 hu;rfl
def yu (l:List (Nat×Nat))(i:Nat)(x:Nat×Nat)(h:l[i]?=some x):(qk l)[2*i]?=some (nv x.1)/\(qk l)[2*i+1]?=some (nv x.2):=by
 induction l generalizing i with
 | nil=>simp at h
 | cons y l ih =>
  cases i with
  | zero=>simp at h;subst h;simp[qk]
  | succ i =>
   simp at h;have:=ih i h;rw[show 2*(i+1)=2*i+2 from by omega]
   simpa [qk] using this
def XY (l:List Un)(i:Nat)(x:Un)(h:l[i]?=some x):(zk l)[4*i]?=some (nv x.kind)/\(zk l)[4*i+1]?=some (nv x.pos)/\(zk l)[4*i+2]?=some (nv x.i)/\(zk l)[4*i+3]?=some (I Z x.old):=by
 induction l generalizing i with
 | nil=>simp at h
 | cons y l ih =>
  cases i with
  | zero=>simp at h;subst h;simp[zk]
  | succ i =>
   simp at h;have:=ih i h;rw[show 4*(i+1)=4*i+4 from by omega]
   simpa [zk] using this
structure Bo (w:Aa)(o:Own)(id k b:Nat)(L:Lg)(vr vk vh vu:Ac):Prop where
 AM:Al w b #[I Z L.mr,I Z L.mu,vr,vk,vh,vu] 219
 rr:Row w o (id,k+1) 3 1 vr L.reads.length (L.reads.map nv)
 rk:Row w o (id,k+2) 3 1 vk L.keeps.length (L.keeps.map nv)
 rh:Row w o (id,k+3) 131 2 vh L.holds.length (qk L.holds)
 ru:Row w o (id,k+4) 175 4 vu L.Ay.length (zk L.Ay)
 ob:o b=(id,k)
def Bo.below {w w':Aa}{o:Own}{id k b:Nat}{L:Lg}{vr vk vh vu:Ac}(h:Bo w o id k b L vr vk vh vu)(hb:Ae w.1.size w w'):Bo w' o id k b L vr vk vh vu:=
 ⟨h.AM.below hb h.AM.lt,h.rr.below hb,h.rk.below hb,h.rh.below hb,h.ru.below hb,h.ob⟩
def Bo.Ao {T:Tag->Prop}{w w':Aa}{o o':Own}{id k b:Nat}{L:Lg}{vr vk vh vu:Ac}(h:Bo w o id k b L vr vk vh vu)(hs:Stp T o o' w w')(hn:∀ j,j<=4->¬T (id,k+j)):Bo w' o' id k b L vr vk vh vu:=
 ⟨h.AM.Ao hs (by rw[h.ob];exact hn 0 (by omega)),h.rr.Ao hs (hn 1 (by omega)),h.rk.Ao hs (hn 2 (by omega)),h.rh.Ao hs (hn 3 (by omega)),h.ru.Ao hs (hn 4 (by omega)),(hs.tags _ h.AM.lt).trans h.ob⟩
section
variable {w : Aa} {o : Own} {t0 tg : Tag} {b k : Nat} {cs : Array Ac} {v : Ac} {ps : List Nat}
def MO (hb:Al w b cs 219)(hv:cs[k]?=some v)(hr:Row w o tg 3 1 v ps.length (ps.map nv))(hl:ps.length<=4096)(p m:Nat)(hp:p ∈ ps) :
  Ab ARt 238 #[Ag (some ⟨b,k,none⟩),I Z p,I Z m] w fun e w'=>e=O (.bool true)/\w=w':=by
 have HC:=Qa (g8 ps hr (by omega) p p rfl)
 rw[decide_eq_true hp]at HC;have c:w.cell? ⟨b,k,none⟩=some v:=by rw[hb.cell];exact hv
 clear hb hv hr hp hl;go_enter func238,ntmps238;go_wp2_with fail;refine HC.out.mono ?_
 rintro e w1 ⟨rfl,rfl⟩
 go_wp2_with fail;go_ret;exact⟨rfl,rfl⟩
def qnl (hb:Al w b cs 219)(hv:cs[k]?=some v)(hr:Row w o tg 3 1 v ps.length (ps.map nv))(hl:ps.length<=4096)(p m:Nat)(hp:p ∉ ps)(hm:m<=ps.length) :
  Ab ARt 238 #[Ag (some ⟨b,k,none⟩),I Z p,I Z m] w fun e w'=>e=O (.bool false)/\w=w':=by
 have HC:=Qa (g8 ps hr (by omega) p p rfl)
 rw[decide_eq_false hp]at HC;have c:w.cell? ⟨b,k,none⟩=some v:=by rw[hb.cell];exact hv
 obtain⟨pa,cp,rfl⟩:=hr.AS;have oU:(m:Int)<=(ps.length:Int):=by omega
 clear hb hv hr hp hl;go_enter func238,ntmps238;go_wp2_with fail;refine HC.out.mono ?_
 rintro e w1 ⟨rfl,rfl⟩
 go_wp2_with fail;go_ret;exact⟨rfl,rfl⟩
def JX (hb:Al w b cs 219) (hv:cs[k]?=some v) (hr:Row w o tg 3 1 v ps.length (ps.map nv)) (hl:ps.length<=4096) (p m:Nat) (hp:p ∉ ps) (hm:ps.length<m) (ht:o b=t0) (hne:t0≠tg) :
  Ab ARt 238 #[Ag (some ⟨b,k,none⟩),I Z p,I Z m] w fun e w'=>e=O (.bool true) /\
   ∃ v' o',Al w' b (cs.setIfInBounds k v') 219/\Row w' o' tg 3 1 v' (ps++[p]).length ((ps++[p]).map nv)/\Stp (fun t=>t=t0\/t=tg) o o' w w':=by
 have HC:=Qa (g8 ps hr (by omega) p p rfl)
 rw[decide_eq_false hp]at HC;have c:w.cell? ⟨b,k,none⟩=some v:=by rw[hb.cell];exact hv
 have s:=hb.lt;have z:=hb.free k;have oU:(ps.length:Int)<(m:Int):=by omega
 obtain⟨iI,hi,hsI,bZ,bT⟩:=jh;have hu64:=underlying25;have hw:=Qa (QJ hl);obtain⟨pa0,fE,rfl⟩:=hr.AS;clear hm hl;go_enter func238,ntmps238;go_wp2_with fail;refine HC.out.mono ?_
 rintro e w1 ⟨rfl,rfl⟩
 go_wp2_with (first|(at_builtin;refine qi _ rfl _ _ _ rfl 3 iI _ 1 8 hu64 hi bT hsI bZ rfl (by decide) o tg _ _ _ rfl (Row.below hr (qc (qd w) _)) ⟨w.1.size,0,none⟩ 1 1 [I Z p] rfl rfl (zj (Al.new w _ _)) ka hw.out.1 hw.out.2 ?_;intro v' w8 hown hst;obtain⟨pa,cp,rfl⟩:=hown.AS;have j8:=(hb.alloc (ARu #[I Z p] 3)).Ao hst (by rw[ht];exact hne);have c8:w8.cell? ⟨b,k,none⟩=some (.slice pa0 ps.length fE):=(by rw[j8.cell];exact hv);have z8:=j8.free k;have s8:=j8.lt)|fail)
 go_ret;have k8:=Stp.setCell (T:=fun t=>t=t0) (Stp.refl _ (ext o (w.alloc (ARu #[I Z p] 3)).1.size tg) w8) (a:=⟨b,k,none⟩) (by show ext o _ _ b=_;rw[qr (hb.alloc (ARu #[I Z p] 3)).lt];exact ht) (.slice pa (ps.length+1) cp)
 refine⟨rfl,_,_,j8.set k _,?_,(((Stp.of_below (T:=fun t=>t=tg) (qc (qd w) (ARu #[I Z p] 3))).trans hst).mono fun _ e=>Or.inr e).trans (k8.mono fun _ e=>Or.inl e)⟩
 simpa [nv] using hown.Ao k8 (fun e=>hne e.symm)
end
def dm (l:List Nat)(p m:Nat):List Nat:=if p ∈ l then l else if l.length<m then l++[p] else l
def um (l:List Nat)(p m:Nat):Bool:=decide (p ∈ l\/l.length<m)
section
variable {w : Aa} {o : Own} {id k b : Nat} {L : Lg} {vr vk vh vu : Ac}
def qga (cs:Array Ac)(j:Nat)(v:Ac)(ps:List Nat)(t0 tg:Tag)(hb:Al w b cs 219)(hv:cs[j]?=some v)(hr:Row w o tg 3 1 v ps.length (ps.map nv))(hl:ps.length<=4096)(p m:Nat)(ht:o b=t0)(hne:t0≠tg) :
  Ab ARt 238 #[Ag (some ⟨b,j,none⟩),I Z p,I Z m] w fun e w'=>e=O (.bool (um ps p m)) /\
   ∃ v' o',Al w' b (cs.setIfInBounds j v') 219/\Row w' o' tg 3 1 v' (dm ps p m).length ((dm ps p m).map nv)/\Stp (fun t=>t=t0\/t=tg) o o' w w':=by
 have hcs:(cs.setIfInBounds j v)=cs:=by
  apply Array.ext_getElem?;intro i;rw[Array.getElem?_setIfInBounds];split
  ·rename_i e;subst e
   split
   ·exact hv.symm
   ·rename_i e2;rw[Array.getElem?_eq_none (by omega)]
  ·rfl
 unfold um dm;by_cases hp:p ∈ ps
 ·rw[if_pos hp,decide_eq_true (Or.inl hp)]
  refine (MO hb hv hr hl p m hp).mono ?_;rintro e w' ⟨rfl,rfl⟩;exact⟨rfl,v,o,by rw[hcs];exact hb,hr,Stp.refl _ _ _⟩
 ·rw[if_neg hp]
  by_cases hm:ps.length<m
  ·rw[if_pos hm,decide_eq_true (Or.inr hm)]
   exact JX hb hv hr hl p m hp hm ht hne
  ·rw[if_neg hm,decide_eq_false (fun e=>e.elim hp hm)]
   refine (qnl hb hv hr hl p m hp (by omega)).mono ?_
   rintro e w' ⟨rfl,rfl⟩;exact⟨rfl,v,o,by rw[hcs];exact hb,hr,Stp.refl _ _ _⟩
def JM (h:Bo w o id k b L vr vk vh vu) (hk:L.ok) (p:Nat) :
  Ab ARt 183 #[Ag (some ⟨b,0,none⟩),I Z p] w fun e w'=>e=O (.bool (um L.reads p L.mr)) /\
   ∃ pV o',Bo w' o' id k b { L with reads:=dm L.reads p L.mr } pV vk vh vu/\Stp (fun t=>t=(id,k)\/t=(id,k+1)) o o' w w':=by
 have HN:=Qa (qga (w:=w.drew) _ 2 _ L.reads (id,k) (id,k+1) (qj h.AM) rfl (h.rr.below (qf (qd w))) (by have:=hk.r;have:=hk.mr;omega) p L.mr h.ob (by simp))
 have HI:=Qa h;have c:=h.AM.cell;generalize um L.reads p L.mr=bb at *;clear h hk;go_enter func183,ntmps183;go_upto_region 1 with fail;go_still_tail 11,(by kernel_rfl)
 change wpList _ _ _ _ _ w.drew;go_wp2_with fail;refine HN.out.mono ?_
 rintro e w1 ⟨rfl,v',o',hb,hr,hs⟩
 go_wp2_with fail;go_ret;have hs':Stp (fun t=>t=(id,k)\/t=(id,k+1)) o o' w w1:=(Stp.of_below (qf (qd w))).trans hs
 have h:=HI.out;exact⟨rfl,v',o',⟨hb,hr,h.rk.Ao hs' (by simp),h.rh.Ao hs' (by simp),h.ru.Ao hs' (by simp),(hs'.tags _ h.AM.lt).trans h.ob⟩,hs'⟩
def JL (h:Bo w o id k b L vr vk vh vu) (hk:L.ok) (p:Nat) :
  Ab ARt 261 #[Ag (some ⟨b,0,none⟩),I Z p] w fun e w'=>e=O (.bool (um L.keeps p L.mr)) /\
   ∃ vk' o',Bo w' o' id k b { L with keeps:=dm L.keeps p L.mr } vr vk' vh vu/\Stp (fun t=>t=(id,k)\/t=(id,k+2)) o o' w w':=by
 have HN:=Qa (qga (w:=w.drew) _ 3 _ L.keeps (id,k) (id,k+2) (qj h.AM) rfl (h.rk.below (qf (qd w))) (by have:=hk.k;have:=hk.mr;omega) p L.mr h.ob (by simp))
 have HI:=Qa h;have c:=h.AM.cell;generalize um L.keeps p L.mr=bb at *;clear h hk;go_enter func261,ntmps261;go_upto_region 1 with fail;go_still_tail 11,(by kernel_rfl)
 change wpList _ _ _ _ _ w.drew;go_wp2_with fail;refine HN.out.mono ?_
 rintro e w1 ⟨rfl,v',o',hb,hr,hs⟩
 go_wp2_with fail;go_ret;have hs':Stp (fun t=>t=(id,k)\/t=(id,k+2)) o o' w w1:=(Stp.of_below (qf (qd w))).trans hs
 have h:=HI.out;exact⟨rfl,v',o',⟨hb,h.rr.Ao hs' (by simp),hr,h.rh.Ao hs' (by simp),h.ru.Ao hs' (by simp),(hs'.tags _ h.AM.lt).trans h.ob⟩,hs'⟩
def qoh (h:Bo w o id k b L vr vk vh vu)(hk:L.ok)(tg:Tag) :
  Ab ARt 81 #[Ag (some ⟨b,0,none⟩)] w fun e w'=>∃ v',e=O v'/\Row w' (ext o w.1.size tg) tg 3 1 v' L.reads.length (L.reads.map nv)/\Ae w.1.size w w':=by
 have HN:=Qa (Uv h.rr (by have:=hk.r;have:=hk.mr;omega) (MK _) tg)
 have c:=h.AM.cell;clear h hk;go_enter func81,ntmps81;go_wp2_with fail;refine HN.out.mono ?_
 rintro e w1 ⟨v',rfl,hr,hb⟩
 go_wp2_with fail;go_ret;exact⟨_,rfl,hr,hb⟩
def UB (h:Bo w o id k b L vr vk vh vu)(hk:L.ok)(tg:Tag) :
  Ab ARt 79 #[Ag (some ⟨b,0,none⟩)] w fun e w'=>∃ v',e=O v'/\Row w' (ext o w.1.size tg) tg 131 2 v' L.holds.length (qk L.holds)/\Ae w.1.size w w':=by
 have HN:=Qa (qk2 h.rh (by have:=hk.h;have:=hk.mu;omega) (ug _) tg)
 have c:=h.AM.cell;clear h hk;go_enter func79,ntmps79;go_wp2_with fail;refine HN.out.mono ?_
 rintro e w1 ⟨v',rfl,hr,hb⟩
 go_wp2_with fail;go_ret;exact⟨_,rfl,hr,hb⟩
def qo3 (h:Bo w o id k b L vr vk vh vu)(hk:L.ok)(tg:Tag) :
  Ab ARt 133 #[Ag (some ⟨b,0,none⟩)] w fun e w'=>∃ v',e=O v'/\Row w' (ext o w.1.size tg) tg 175 4 v' L.Ay.length (zk L.Ay)/\Ae w.1.size w w':=by
 have HN:=Qa (qlh h.ru (by have:=hk.u;have:=hk.mu;omega) (XI _) tg)
 have c:=h.AM.cell;clear h hk;go_enter func133,ntmps133;go_wp2_with fail;refine HN.out.mono ?_
 rintro e w1 ⟨v',rfl,hr,hb⟩
 go_wp2_with fail;go_ret;exact⟨_,rfl,hr,hb⟩
def qog (h:Bo w o id k b L vr vk vh vu) :
  Ab ARt 140 #[Ag (some ⟨b,0,none⟩)] w fun e w'=>e=O (Aj #[])/\Bo w' o id k b { L with reads:=[],keeps:=[],holds:=[],Ay:=[] } (Ah none 0 0) (Ah none 0 0) (Ah none 0 0) (Ah none 0 0)/\Stp (fun t=>t=(id,k)) o o w w':=by
 have HI:=Qa h;have j:=h.AM;have c:=h.AM.cell;have z:=h.AM.free;have s:=h.AM.lt;clear h;go_enter func140,ntmps140;go_wp2_with fail;go_end0;have eQ:=HI.out.ob;refine⟨rfl,⟨(((j.set 2 _).set 3 _).set 4 _).set 5 _,Row.nil _ _ _ _ _,Row.nil _ _ _ _ _,Row.nil _ _ _ _ _,Row.nil _ _ _ _ _,eQ⟩,?_⟩;exact ((((Stp.refl _ o w).setCell (by simpa using eQ) _).setCell (by simpa using eQ) _).setCell (by simpa using eQ) _).setCell (by simpa using eQ) _
end
end
section
open Go.RowKit Hp
structure Tx where
 live:Bool
 start:Nat
 seen:Nat
 log:Lg
 AP:List (Nat×Nat)
structure An where
 H:Hp
 ph:Nat
 now:Nat
 most:Nat
 Au:List Tx
 queue:List (Nat×Nat)
 next:Nat
 Av:Int
 version:Nat
 lost:List Nat
 came:List Nat
def kp (l:List Tx):Nat:=(l.filter (·.live)).length
def wg:List Tx->Nat
 | []=>0
 | x::l=>x.AP.length+wg l
def uq (v:Nat):Prop:=v%2=1->v/2<8
structure Lg.fit (L:Lg):Prop where
 ok:L.ok
 hv:∀ z ∈ L.holds,z.2<=1099511627776
 un:∀ u ∈ L.Ay,-9223372036854775808<=u.old/\u.old<=9223372036854775807
 kd:∀ u ∈ L.Ay,u.kind=1->0<=u.old
structure An.ok (S:An):Prop where
 H:S.H.wf
 n2:S.most<=1099511627776
 lv:S.now+kp S.Au<=S.most
 t1:1<=S.Au.length
 t8:S.Au.length<=8
 lg:∀ x ∈ S.Au,x.log.fit
 st:∀ x ∈ S.Au,x.start<=S.now
 ve:S.version<=S.now
 ho:-1<=S.Av/\S.Av<=8
 sc:∀ x ∈ S.H.cur,uq x.2.second
 so:∀ x ∈ S.H.old,uq x.2.1.second
 qu:S.queue.length+wg S.Au<=S.next
 nx:S.next+S.H.final.length<=S.H.Aw
 cm:S.came.length<=S.next
 se:∀ x ∈ S.Au,x.seen<=S.next
 ph:S.ph<=2/\(S.ph=0↔S.H.AD=false)
def An.ok.n1 {S:An}(h:S.ok):S.now<=S.most:=by have:=h.lv;omega
def An.ok.Lr {S:An}(h:S.ok):S.next<=1099511627776:=by have:=h.nx;have:=h.H.ok.Cw;omega
structure A6 where
 sb:Nat
 l:A7
 cy:Nat
 ck:Nat
 EM:Ac
 xb:Nat->Nat
 lb:Nat->Nat
abbrev ptr (b:Nat):Ac:=Ag (some ⟨b,0,none⟩)
def zw (i:Nat)(x:Tx)(lb:Nat)(vt:Ac):Array Ac:=#[I Z i,.bool x.live,I Z x.start,I Z x.seen,ptr lb,vt]
structure Ey (w:Aa)(o:Own)(id i xb lb:Nat)(x:Tx):Prop where
 AM:∃ vt,Al w xb (zw i x lb vt) 107/\Row w o (id,22+8*i) 117 2 vt x.AP.length (qk x.AP)
 log:∃ vr vk vh vu,Bo w o id (17+8*i) lb x.log vr vk vh vu
 ob:o xb=(id,16+8*i)
def phV (cy:Nat)(n:Nat):Ac:=if n=1 then .func (.func 126) #[ptr cy] #[] else .func (.func 190) #[ptr cy] #[]
def qmm (y:A6)(vp:Ac):Array Ac:=#[ptr y.l.h,vp,Ah none 0 0,Ah none 0 0]
def Bp (w:Aa)(o:Own)(l:A7)(H:Hp):Prop:=∃ vc vo vw vf f,AA w o l H vc vo vw vf f
def qw (y:A6)(S:An)(vq vl vm:Ac):Array Ac:=
 #[ptr y.l.h,ptr y.cy,ptr y.ck,y.EM,vq,I Z S.next,I Z S.Av,I Z S.version,vl,vm]
structure B1 (w:Aa)(o:Own)(id:Nat)(S:An)(vq vl vm:Ac):Prop where
 q:Row w o (id,13) 117 2 vq S.queue.length (qk S.queue)
 l:Row w o (id,14) 3 1 vl S.lost.length (S.lost.map nv)
 m:Row w o (id,15) 3 1 vm S.came.length (S.came.map nv)
def E3 (cy:Nat)(n:Nat):Ac:=if n=0 then .nilFunc else phV cy n
structure Aq (w:Aa)(o:Own)(y:A6)(S:An):Prop where
 AM:∃ vq vl vm,Al w y.sb (qw y S vq vl vm) 101/\B1 w o y.l.id S vq vl vm
 cy:Al w y.cy (qmm y (E3 y.cy S.ph)) 201
 hp:Bp w o y.l S.H
 ck:Al w y.ck #[I Z S.now,I Z S.most] 193
 DV:Row w o (y.l.id,12) 103 1 y.EM S.Au.length ((List.range S.Au.length).map fun i=>ptr (y.xb i))
 Au:∀ i x,S.Au[i]?=some x->Ey w o y.l.id i (y.xb i) (y.lb i) x
 oc:o y.ck=(y.l.id,10)
 os:o y.sb=(y.l.id,11)
 oy:o y.cy=(y.l.id,7)
def AA.Ao {T:Tag->Prop}{w w':Aa}{o o':Own}{l:A7}{H:Hp}{vc vo vw vf:Ac}{f:Nat->Nat}(h:AA w o l H vc vo vw vf f)(hs:Stp T o o' w w')(hn:∀ j,j<=6->¬T (l.id,j)):AA w' o' l H vc vo vw vf f:=
 ⟨h.hb.Ao hs (by rw[h.oh];exact hn 0 (by omega)),h.B6.Ao hs (by rw[h.oa];exact hn 1 (by omega)) (by rw[h.ow];exact hn 2 (by omega)),
  h.rc.Ao hs (hn _ (by split<;>omega)),h.ro.Ao hs (hn _ (by split<;>omega)),h.rw.Ao hs (hn 5 (by omega)),h.rf.Ao hs (hn 6 (by omega)),
  (hs.tags _ h.hb.lt).trans h.oh,(hs.tags _ h.B6.BM.lt).trans h.oa,(hs.tags _ h.B6.lt).trans h.ow,h.E0,h.BP⟩
def Bp.Ao {T:Tag->Prop}{w w':Aa}{o o':Own}{l:A7}{H:Hp}(h:Bp w o l H)(hs:Stp T o o' w w')(hn:∀ j,j<=6->¬T (l.id,j)):Bp w' o' l H:=by
 obtain⟨vc,vo,vw,vf,f,h⟩:=h;exact⟨vc,vo,vw,vf,f,h.Ao hs hn⟩
def Ey.Ao {T:Tag->Prop}{w w':Aa}{o o':Own}{id i xb lb:Nat}{x:Tx}(h:Ey w o id i xb lb x)(hs:Stp T o o' w w')(hn:∀ j,j<=7->¬T (id,16+8*i+j)):Ey w' o' id i xb lb x:=by
 obtain⟨vr,vk,vh,vu,hl⟩:=h.log;obtain⟨vt,hb,hr⟩:=h.AM;refine⟨⟨vt,hb.Ao hs (by rw[h.ob];exact hn 0 (by omega)),hr.Ao hs ?_⟩,⟨vr,vk,vh,vu,hl.Ao hs fun j hj=>?_⟩,(hs.tags _ hb.lt).trans h.ob⟩
 ·have:=hn 6 (by omega)
  rwa [show 16+8*i+6=22+8*i from by omega]at this
 ·have:=hn (1+j) (by omega)
  rwa [show 16+8*i+(1+j)=17+8*i+j from by omega]at this
def B1.Ao {T:Tag->Prop}{w w':Aa}{o o':Own}{id:Nat}{S:An}{vq vl vm:Ac}(h:B1 w o id S vq vl vm)(hs:Stp T o o' w w')(hn:∀ j,13<=j->j<=15->¬T (id,j)):B1 w' o' id S vq vl vm:=
 ⟨h.q.Ao hs (hn 13 (by omega) (by omega)),h.l.Ao hs (hn 14 (by omega) (by omega)),h.m.Ao hs (hn 15 (by omega) (by omega))⟩
section
variable {w w' : Aa} {o o' : Own} {y : A6} {S : An}
def Aq.lt (h:Aq w o y S):y.sb<w.1.size:=by obtain⟨_,_,_,hb,_⟩:=h.AM;exact hb.lt
def Aq.Ao {T:Tag->Prop}(h:Aq w o y S)(hs:Stp T o o' w w')(hn:∀ j,¬T (y.l.id,j)):Aq w' o' y S:=by
 obtain⟨vq,vl,vm,hb,hr⟩:=h.AM;exact⟨⟨vq,vl,vm,hb.Ao hs (by rw[h.os];exact hn _),hr.Ao hs fun j _ _=>hn j⟩,h.cy.Ao hs (by rw[h.oy];exact hn _),h.hp.Ao hs fun j _=>hn j,h.ck.Ao hs (by rw[h.oc];exact hn _),h.DV.Ao hs (hn _),fun i x hx=>(h.Au i x hx).Ao hs fun j _=>hn _,(hs.tags _ h.ck.lt).trans h.oc,(hs.tags _ h.lt).trans h.os,(hs.tags _ h.cy.lt).trans h.oy⟩
def Aq.below (h:Aq w o y S)(hb:Ae w.1.size w w'):Aq w' o y S:=h.Ao (T:=fun _=>False) (Stp.of_below hb) fun _ h=>h
def Aq.retag (h:Aq w o y S)(he:∀ b,b<w.1.size->o' b=o b):Aq w o' y S:=
 h.Ao (T:=fun _=>False) ⟨rfl,rfl,rfl,Qk _,he,fun _ _ _=>rfl⟩ fun _ h=>h
def Aq.box (h:Aq w o y S){a:Addr}(ht:o a.block=(y.l.id+1,0))(v:Ac):Aq (w.setCell a v) o y S:=
 h.Ao (T:=fun t=>t=(y.l.id+1,0)) ((Stp.refl _ o w).setCell ht v) fun j=>by simp
def Aq.alloc (h:Aq w o y S)(x:Obj):Aq (w.alloc x) o y S:=h.below (qc (qd w) x)
def Aq.heap (h:Aq w o y S){H':Hp}(hh:Bp w' o' y.l H')(hs:Stp (zu y.l) o o' w w'):Aq w' o' y { S with H:=H' }:=by
 obtain⟨vq,vl,vm,hb,hr⟩:=h.AM;have hn:∀ j,7<=j->¬zu y.l (y.l.id,j):=fun j hj hh=>by have:=hh.2;simp at this;omega
 exact⟨⟨vq,vl,vm,hb.Ao hs (by rw[h.os];exact hn _ (by omega)),(hr.Ao hs fun j _ _=>hn j (by omega):B1 w' o' y.l.id S vq vl vm).1,(hr.Ao hs fun j _ _=>hn j (by omega):B1 w' o' y.l.id S vq vl vm).2,(hr.Ao hs fun j _ _=>hn j (by omega):B1 w' o' y.l.id S vq vl vm).3⟩,h.cy.Ao hs (by rw[h.oy];exact hn _ (by omega)),hh,h.ck.Ao hs (by rw[h.oc];exact hn _ (by omega)),h.DV.Ao hs (hn _ (by omega)),fun i x hx=>(h.Au i x hx).Ao hs fun j _=>hn _ (by omega),(hs.tags _ h.ck.lt).trans h.oc,(hs.tags _ h.lt).trans h.os,(hs.tags _ h.cy.lt).trans h.oy⟩
def pj (y:A6)(i:Nat)(t:Tag):Prop:=t.1=y.l.id/\16+8*i<=t.2/\t.2<=23+8*i
def py {y:A6}{i j:Nat}(h:j<16):¬pj y i (y.l.id,j):=fun hh=>by have:=hh.2.1;simp at this;omega
def yx:∀ (l:List Tx)(i:Nat)(x z:Tx),l[i]?=some z->wg (l.set i x)+z.AP.length=wg l+x.AP.length
 | [],i,x,z,h=>by simp at h
 | q::l,0,x,z,h=>by simp at h;subst h;simp[wg];omega
 | q::l,i+1,x,z,h=>by
  have:=yx l i x z (by simpa using h)
  simp[wg];omega
def kz (q:Tx)(l:List Tx):kp (q::l)=(if q.live then 1 else 0)+kp l:=by
 unfold kp;rw[List.filter_cons];split
 ·rw[Qv];omega
 ·omega
def yy:∀ (l:List Tx)(i:Nat)(x z:Tx),l[i]?=some z->kp (l.set i x)+(if z.live then 1 else 0)=kp l+if x.live then 1 else 0
 | [],i,x,z,h=>by simp at h
 | q::l,0,x,z,h=>by
  simp at h;subst h;rw[List.set_cons_zero,kz,kz];omega
 | q::l,i+1,x,z,h=>by
  have:=yy l i x z (by simpa using h)
  rw[List.set_cons_succ,kz,kz];omega
def Aq.tx (h:Aq w o y S){i:Nat}{x':Tx}(hx':Ey w' o' y.l.id i (y.xb i) (y.lb i) x')(hs:Stp (pj y i) o o' w w'):Aq w' o' y { S with Au:=S.Au.set i x' }:=by
 obtain⟨vq,vl,vm,hb,hr⟩:=h.AM;refine⟨⟨vq,vl,vm,hb.Ao hs (by rw[h.os];exact py (by omega)),?_⟩,h.cy.Ao hs (by rw[h.oy];exact py (by omega)),h.hp.Ao hs fun j hj=>py (by omega),h.ck.Ao hs (by rw[h.oc];exact py (by omega)),?_,fun j x hx=>?_,(hs.tags _ h.ck.lt).trans h.oc,(hs.tags _ h.lt).trans h.os,(hs.tags _ h.cy.lt).trans h.oy⟩
 ·have hr':=hr.Ao hs fun j _ _=>py (by omega)
  exact⟨hr'.q,hr'.l,hr'.m⟩
 ·show Row w' o' _ _ 1 y.EM (S.Au.set i x').length _
  rw[Qq];exact h.DV.Ao hs (py (by omega))
 ·simp only[Qr]at hx
  split at hx
  ·rename_i e;subst e
   split at hx
   ·injection hx with hx;subst hx;exact hx'
   ·cases hx
  ·rename_i e
   exact (h.Au j x hx).Ao hs fun k hk hh=>by have:=hh.2;simp at this;omega
def Aq.clock (h:Aq w o y S){n:Nat}(hc:Al w' y.ck #[I Z n,I Z S.most] 193)(hs:Stp (fun t=>t=(y.l.id,10)) o o' w w'):Aq w' o' y { S with now:=n }:=by
 obtain⟨vq,vl,vm,hb,hr⟩:=h.AM;have hn:∀ j,j≠10->¬(y.l.id,j)=(y.l.id,10):=fun j hj e=>hj (by simpa using e)
 have hr':=hr.Ao hs fun j _ _=>hn j (by omega)
 exact⟨⟨vq,vl,vm,hb.Ao hs (by rw[h.os];exact hn _ (by omega)),hr'.q,hr'.l,hr'.m⟩,h.cy.Ao hs (by rw[h.oy];exact hn _ (by omega)),h.hp.Ao hs fun j hj=>hn _ (by omega),hc,h.DV.Ao hs (hn _ (by omega)),fun i x hx=>(h.Au i x hx).Ao hs fun j _=>hn _ (by omega),(hs.tags _ h.ck.lt).trans h.oc,(hs.tags _ h.lt).trans h.os,(hs.tags _ h.cy.lt).trans h.oy⟩
def kl (y:A6)(t:Tag):Prop:=t.1=y.l.id/\(t.2=11\/t.2=13\/t.2=14\/t.2=15)
def bj {y:A6}{j:Nat}(h1:j≠11)(h2:j≠13)(h3:j≠14)(h4:j≠15):¬kl y (y.l.id,j):=fun hh=>by have:=hh.2;simp at this;omega
def Aq.own (h:Aq w o y S){S':An}(e1:S'.H=S.H)(e2:S'.ph=S.ph)(e3:S'.now=S.now)(e4:S'.most=S.most)(e5:S'.Au=S.Au)
  {vq vl vm:Ac}(hb:Al w' y.sb (qw y S' vq vl vm) 101)(hr:B1 w' o' y.l.id S' vq vl vm)(hs:Stp (kl y) o o' w w'):Aq w' o' y S':=by
 have hn:∀ j,j≠11->j≠13->j≠14->j≠15->¬kl y (y.l.id,j):=fun j a b c d=>bj a b c d
 exact⟨⟨vq,vl,vm,hb,hr⟩,by rw[e2];exact h.cy.Ao hs (by rw[h.oy];exact hn _ (by omega) (by omega) (by omega) (by omega)),by rw[e1];exact h.hp.Ao hs fun j hj=>hn _ (by omega) (by omega) (by omega) (by omega),
  by rw[e3,e4];exact h.ck.Ao hs (by rw[h.oc];exact hn _ (by omega) (by omega) (by omega) (by omega)),by rw[e5];exact h.DV.Ao hs (hn _ (by omega) (by omega) (by omega) (by omega)),fun i x hx=>(h.Au i x (by rw[<-e5];exact hx)).Ao hs fun j _=>hn _ (by omega) (by omega) (by omega) (by omega),
  (hs.tags _ h.ck.lt).trans h.oc,(hs.tags _ h.lt).trans h.os,(hs.tags _ h.cy.lt).trans h.oy⟩
def Aq.DD (h:Aq w o y S)(i:Nat)(hi:i<S.Au.length):∃ g cap,y.EM=Ah (some ⟨g,0,none⟩) S.Au.length cap/\w.cell? ⟨g,i,none⟩=some (ptr (y.xb i))/\S.Au.length<=cap:=by
 rcases h.DV.form with ⟨_,h0⟩|⟨g,cap,e,hn,hc,_⟩
 ·omega
 ·refine⟨g,cap,e,?_,hn⟩
  have hr:=h.DV;rw[e]at hr;refine hr.cells i _ ?_;rw[Qj,List.getElem?_range hi];rfl
def qo (y:A6)(t:Tag):Prop:=t.1=y.l.id
def qy (y:A6):¬qo y (y.l.id+1,0):=by unfold qo;simp
def To {y:A6}{i:Nat}{t:Tag}(h:pj y i t):qo y t:=h.1
def ll {y:A6}{t:Tag}(h:zu y.l t):qo y t:=h.1
def mw {y:A6}{t:Tag}(h:kl y t):qo y t:=h.1
def Bl (y:A6)(S:An)(o:Own)(w w':Aa):Prop:=∃ o',Aq w' o' y S/\Stp (qo y) o o' w w'
def Aq.D1 (h:Aq w o y S)(hb:Ae w.1.size w w'):Bl y S o w w':=⟨o,h.below hb,Stp.of_below hb⟩
def Aq.DK (h:Aq w o y S):Bl y S o w w:=h.D1 (qd w)
end
def An.t (S:An)(i:Nat):Tx:=S.Au.getD i ⟨false,0,0,⟨0,0,[],[],[],[]⟩,[]⟩
def An.AV {S:An}{i:Nat}(h:i<S.Au.length):S.Au[i]?=some (S.t i):=by
 unfold An.t;simp[af,Qb h]
def An.tx (S:An)(i:Nat)(x:Tx):An:={ S with Au:=S.Au.set i x }
def An.FM {S:An}{i:Nat}(h:i<S.Au.length)(x:Tx):(S.tx i x).t i=x:=by
 unfold An.t An.tx;simp[af,h]
def An.EL (S:An){i j:Nat}(h:i≠j)(x:Tx):(S.tx i x).t j=S.t j:=by
 unfold An.t An.tx;simp[af,List.getElem?_set_ne h]
def An.Cq (S:An)(i:Nat)(x:Tx):(S.tx i x).Au.length=S.Au.length:=by simp[An.tx]
def An.Td (S:An)(i:Nat)(x z:Tx):(S.tx i x).tx i z=S.tx i z:=by simp[An.tx,List.set_set]
def An.MP {S:An}(hk:S.ok){H':Hp}(h:H'.wf)(hs:∀ x ∈ H'.cur,uq x.2.second)(ho:∀ x ∈ H'.old,uq x.2.1.second)(hf:S.next+H'.final.length<=H'.Aw)(hm:H'.AD=S.H.AD):An.ok { S with H:=H' }:=
 ⟨h,hk.n2,hk.lv,hk.t1,hk.t8,hk.lg,hk.st,hk.ve,hk.ho,hs,ho,hk.qu,hf,hk.cm,hk.se,by rw[hm];exact hk.ph⟩
def An.Sv {S:An}(hk:S.ok){i:Nat}{x x':Tx}(hx:S.Au[i]?=some x)(h1:x'.log.fit)(h2:x'.start<=S.now)(h3:x'.seen<=S.next)(h4:x'.live=x.live)(h5:x'.AP=x.AP):An.ok (S.tx i x'):=by
 have hl:=yy S.Au i x' x hx;have ht:=yx S.Au i x' x hx;rw[h4]at hl;rw[h5]at ht;have hmem:∀ z ∈ S.Au.set i x',z ∈ S.Au\/z=x':=fun z hz=>List.mem_or_eq_of_mem_set hz
 refine⟨hk.H,hk.n2,by have hl':=Nat.add_right_cancel hl;show S.now+kp (S.Au.set i x')<=S.most;rw[hl'];exact hk.lv,by simpa [An.tx] using hk.t1,by simpa [An.tx] using hk.t8,fun z hz=>?_,fun z hz=>?_,hk.ve,hk.ho,hk.sc,hk.so,by show S.queue.length+wg (S.Au.set i x')<=S.next;have:=hk.qu;omega,hk.nx,hk.cm,fun z hz=>?_,hk.ph⟩
 ·rcases hmem z hz with h|rfl
  ·exact hk.lg z h
  ·exact h1
 ·rcases hmem z hz with h|rfl
  ·exact hk.st z h
  ·exact h2
 ·rcases hmem z hz with h|rfl
  ·exact hk.se z h
  ·exact h3
end
section
open Go.RowKit Hp
attribute [local go_sem ↓] Go.wp_at_zero Go.wp_at_succ
def Hp.sec (H:Hp)(p:Nat):Nat:=match lk H.cur p with|some ob=>ob.second|none=>0
def Hp.C2 (H:Hp)(p:Nat):Nat×Nat:=match lk H.cur p with|some ob=>(ob.Aw,0)|none=>(0,70)
def Hp.Cy (H:Hp)(p i:Nat):Int×Nat:=match lk H.cur p with|none=>(0,70)|some ob=>match ob.nums[i]? with|none=>(0,71)|some n=>(n,0)
def xz (i start v:Nat):Bool:=if v%2=1 then decide (v/2≠i) else decide (start<v/2)
def An.ok.sec {S:An}(hk:S.ok)(p:Nat):uq (S.H.sec p)/\S.H.sec p<=2199023255552:=by
 unfold Hp.sec;split
 ·rename_i ob hp;exact⟨hk.sc _ (kj hp),(hk.H.EZ hp).sec⟩
 ·exact⟨fun h=>by simp at h,by omega⟩
def TW {l:List (Nat×Ob)}{p:Nat}{o:Ob}{P:Nat->Prop}(h:∀ x ∈ l,P x.2.second)(ho:P o.second):∀ x ∈ up l p o,P x.2.second:=by
 intro x hx;obtain⟨z,hz,rfl⟩:=Qt.1 hx;split
 ·exact ho
 ·exact h z hz
def An.CR {S:An}(hk:S.ok){p:Nat}{ob dK:Ob}(hp:lk S.H.cur p=some ob)(ho:dK.ok)(hs:dK.AQ=ob.AQ)(h2:uq dK.second):An.ok { S with H:={ S.H with cur:=up S.H.cur p dK } }:=
 An.MP hk (SO hk.H hp ho hs) (TW hk.sc h2) hk.so hk.nx rfl
def An.Dx {S:An}(hk:S.ok)(p i q:Nat):An.ok { S with H:=(S.H.Br p i q).1 }:=by
 unfold Hp.Br;split
 ·exact hk
 ·rename_i ob hp
  split
  ·exact hk
  ·rename_i hq
   split
   ·exact hk
   ·exact An.CR hk hp (Ob.Cm (hk.H.EZ hp) i q (QV hk.H.ok hq)) rfl (hk.sc _ (kj hp))
def An.Eg {S:An}(hk:S.ok)(p i:Nat){n:Int}(hn:-9223372036854775808<=n/\n<=9223372036854775807):An.ok { S with H:=(S.H.BO p i n).1 }:=by
 unfold Hp.BO;split
 ·exact hk
 ·rename_i ob hp
  split
  ·exact hk
  ·exact An.CR hk hp (Ob.Eh (hk.H.EZ hp) i n hn) rfl (hk.sc _ (kj hp))
def An.Cv {S:An}(hk:S.ok)(p:Nat)(b:Bool):An.ok { S with H:=(S.H.A1 p b).1 }:=by
 unfold Hp.A1;split
 ·exact hk
 ·rename_i ob hp;exact An.CR hk hp (Ob.Dz (hk.H.EZ hp) b) rfl (hk.sc _ (kj hp))
def An.CI {S:An}(hk:S.ok)(p:Nat){v:Nat}(hv:v<=2199023255552)(h2:uq v):An.ok { S with H:=(S.H.AJ p v).1 }:=by
 unfold Hp.AJ;split
 ·exact hk
 ·rename_i ob hp;exact An.CR hk hp (Ob.Ds (hk.H.EZ hp) v hv) rfl h2
def qkc {l:List (Nat×Ob×Option Nat)}{p q:Nat}(h:∀ x ∈ l,uq x.2.1.second):∀ x ∈ zz l p q,uq x.2.1.second:=by
 intro x hx;unfold zz at hx;obtain⟨z,hz,rfl⟩:=Qt.1 hx;split
 ·exact h z hz
 ·exact h z hz
def Cb (H:Hp):Prop:=(∀ x ∈ H.cur,uq x.2.second)/\∀ x ∈ H.old,uq x.2.1.second
def An.ok.Es {S:An}(hk:S.ok):Cb S.H:=⟨hk.sc,hk.so⟩
def Cb.AB {H:Hp}(h:Cb H)(p:Nat):Cb (H.AB p).1:=by
 unfold Hp.AB;split
 ·exact h
 ·exact h
 ·rename_i ob hp
  refine⟨fun x hx=>?_,qkc h.2⟩;rcases Qs.1 (show x ∈ H.cur++_ from hx) with hx|hx
  ·exact h.1 x hx
  ·rw[Zc.1 hx];exact h.2 _ (ku hp)
def Cb.Ax:∀ (l:List Nat){H:Hp},Cb H->Cb (H.Ax l).1
 | [],_,h=>h
 | p::l,_,h=>Cb.Ax l (h.AB p)
def An.J2 {S:An}(hk:S.ok)(p:Nat):An.ok { S with H:=(S.H.AB p).1 }:=by
 have h:=gg (H:=S.H) p;exact An.MP hk (Hp.EE hk.H p) (hk.Es.AB p).1 (hk.Es.AB p).2 (by rw[h.2.2.2.2.2.2.1,h.2.2.2.2.1];exact hk.nx) h.2.2.1
def An.DR {S:An}(hk:S.ok)(p i:Nat):An.ok { S with H:=(S.H.Bi p i).1 }:=by
 unfold Hp.Bi;split
 ·exact hk
 ·rename_i ob hp
  split
  ·exact hk
  ·rename_i x hx
   split
   ·have h1:=An.J2 hk x
    have ho:=hk.H.EZ hp;exact An.CR h1 (TF hp) (Ob.Cm ho i _ (TJ hk.H.ok (ho.ptr x (Qe hx)))) rfl (hk.sc _ (kj hp))
   ·exact hk
def An.QS {S:An}(hk:S.ok){s:BX}(hs:s.ok)(hr:S.H.roomy s=true):An.ok { S with H:=S.H.lay s }:=by
 refine An.MP hk (Hp.QH hk.H hs hr) (fun x hx=>?_) hk.so ?_ rfl
 ·rcases Qs.1 (show x ∈ S.H.cur++_ from hx) with hx|hx
  ·exact hk.sc x hx
  ·rw[Zc.1 hx];intro h;simp[Ob.new]at h
 ·show S.next+List.length (if s.final then _ else _)<=S.H.Aw+1
  have:=hk.nx;split<;>simp<;>omega
def An.EF {S:An}(hk:S.ok){s:BX}(hs:s.ok):An.ok { S with H:=(S.H.AR s).1 }:=by
 unfold Hp.AR;split
 ·rename_i hr;exact An.QS hk hs hr
 ·exact hk
section
variable {w w' : Aa} {o o' : Own} {y : A6} {S : An} {x : Tx} {i : Nat}
def AA.Fs {l:A7}{H H':Hp}{vc vo vw vf:Ac}{f:Nat->Nat}(hh:AA w o l H vc vo vw vf f)(h':∃ f',AA w' o l H' vc vo vw vf f')(hw:Wr l.wd w w'):Bp w' o l H'/\Stp (zu l) o o w w':=by
 obtain⟨f',h'⟩:=h';exact⟨⟨vc,vo,vw,vf,f',h'⟩,Stp.BE hw (by rw[hh.ow];exact⟨rfl,by simp⟩)⟩
def Aq.Dl (h:Aq w o y S){H':Hp}(hh:Bp w' o y.l H')(hs:Stp (zu y.l) o o w w'):Bl y { S with H:=H' } o w w':=⟨o,h.heap hh hs,hs.mono fun _=>ll⟩
def Pr (h:Aq w o y S)(hk:S.ok)(p j:Nat) :
  Ab ARt 76 #[ptr y.l.h,I Z p,I Z j] w fun e w'=>e=O (Aj #[I Z (S.H.Cy p j).1,I Z ((S.H.Cy p j).2:Nat)])/\Ae w.1.size w w':=by
 obtain⟨vc,vo,vw,vf,f,hh⟩:=h.hp;unfold Hp.Cy
 cases hp:lk S.H.cur p with
 | none=>exact Mr hh hk.H.ok hp j
 | some ob =>
  simp only
  cases hn:ob.nums[j]? with
  | none=>exact Js hh hk.H.ok hp j (by have:=List.getElem?_eq_none_iff.1 hn;rw[(hk.H.EZ hp).ln]at this;exact this)
  | some n=>exact Mq hh hk.H.ok hp j n hn
def Ky (h:Aq w o y S)(hk:S.ok)(p:Nat) :
  Ab ARt 70 #[ptr y.l.h,I Z p] w fun e w'=>e=O (Aj #[I Z ((S.H.C2 p).1:Nat),I Z ((S.H.C2 p).2:Nat)])/\Ae w.1.size w w':=by
 obtain⟨vc,vo,vw,vf,f,hh⟩:=h.hp;unfold Hp.C2
 cases hp:lk S.H.cur p with
 | none=>exact WS hh hk.H.ok hp
 | some ob=>exact XC hh hk.H.ok hp
def US (h:Aq w o y S)(hk:S.ok)(p:Nat) :
  Ab ARt 141 #[ptr y.l.h,I Z p] w fun e w'=>∃ er:Int,e=O (Aj #[.int .u64 (S.H.sec p:Nat),I Z er])/\Ae w.1.size w w':=by
 obtain⟨vc,vo,vw,vf,f,hh⟩:=h.hp;unfold Hp.sec
 cases hp:lk S.H.cur p with
 | none=>exact (qlf hh hk.H.ok hp).mono fun _ _⟨a,b⟩=>⟨70,a,b⟩
 | some ob=>exact (qk7 hh hk.H.ok hp).mono fun _ _⟨a,b⟩=>⟨0,a,b⟩
def SD (h:Aq w o y S)(hk:S.ok)(p:Nat) :
  Ab ARt 61 #[ptr y.l.h,I Z p] w fun e w'=>e=O (.bool (lk S.H.cur p).isSome)/\Ae w.1.size w w':=by
 obtain⟨vc,vo,vw,vf,f,hh⟩:=h.hp;exact UL hh hk.H.ok p p rfl
def qi9 (h:Aq w o y S)(hk:S.ok)(p j:Nat)(n:Int)(hn:-9223372036854775808<=n/\n<=9223372036854775807) :
  Ab ARt 110 #[ptr y.l.h,I Z p,I Z j,I Z n] w fun e w'=>e=O (I Z ((S.H.BO p j n).2:Nat))/\Bl y { S with H:=(S.H.BO p j n).1 } o w w':=by
 obtain⟨vc,vo,vw,vf,f,hh⟩:=h.hp;unfold Hp.BO
 cases hp:lk S.H.cur p with
 | none=>exact (ql6 hh hk.H.ok hp j n).mono fun _ _⟨a,b⟩=>⟨a,h.D1 b⟩
 | some ob =>
  simp only;by_cases hj:ob.AQ.d<=j
  ·rw[if_pos hj]
   exact (qik hh hk.H.ok hp j n hj).mono fun _ _⟨a,b⟩=>⟨a,h.D1 b⟩
  ·rw[if_neg hj]
   refine (qjy hh hk.H.ok hp j n (by omega) hn).mono ?_
   rintro e w'⟨rfl,_,h',hw⟩;obtain⟨a1,a2⟩:=hh.Fs h' hw;exact⟨rfl,h.Dl a1 a2⟩
def m7 (h:Aq w o y S)(hk:S.ok)(p:Nat)(b:Bool) :
  Ab ARt 121 #[ptr y.l.h,I Z p,.bool b] w fun e w'=>e=O (I Z ((S.H.A1 p b).2:Nat))/\Bl y { S with H:=(S.H.A1 p b).1 } o w w':=by
 obtain⟨vc,vo,vw,vf,f,hh⟩:=h.hp;unfold Hp.A1
 cases hp:lk S.H.cur p with
 | none=>exact (qhe hh hk.H.ok hp b).mono fun _ _⟨a,b⟩=>⟨a,h.D1 b⟩
 | some ob =>
  refine (qge hh hk.H.ok hp b).mono ?_;rintro e w'⟨rfl,_,h',hw⟩;obtain⟨a1,a2⟩:=hh.Fs h' hw;exact⟨rfl,h.Dl a1 a2⟩
def WH (h:Aq w o y S)(hk:S.ok)(p v:Nat)(hv:v<=2199023255552) :
  Ab ARt 145 #[ptr y.l.h,I Z p,.int .u64 v] w fun e w'=>e=O (I Z ((S.H.AJ p v).2:Nat))/\Bl y { S with H:=(S.H.AJ p v).1 } o w w':=by
 obtain⟨vc,vo,vw,vf,f,hh⟩:=h.hp;unfold Hp.AJ
 cases hp:lk S.H.cur p with
 | none=>exact (ri hh hk.H.ok hp v).mono fun _ _⟨a,b⟩=>⟨a,h.D1 b⟩
 | some ob =>
  refine (nk hh hk.H.ok hp v hv).mono ?_;rintro e w'⟨rfl,_,h',hw⟩;obtain⟨a1,a2⟩:=hh.Fs h' hw;exact⟨rfl,h.Dl a1 a2⟩
def NB (h:Aq w o y S)(hk:S.ok)(s:BX)(hs:s.ok) :
  Ab ARt 167 #[ptr y.l.h,kw s] w fun e w'=>e=O (Aj #[I Z ((S.H.AR s).2.1:Nat),I Z ((S.H.AR s).2.2:Nat)])/\Bl y { S with H:=(S.H.AR s).1 } o w w':=by
 obtain⟨vc,vo,vw,vf,f,hh⟩:=h.hp;refine (qom hh hk.H s hs).mono ?_
 rintro e w' ⟨rfl,bM,vo',gF,eZ,f',o',hh',hs⟩
 exact⟨rfl,o',h.heap ⟨_,_,_,_,_,hh'⟩ hs,hs.mono fun _=>ll⟩
def Uw (h:Aq w o y S)(hk:S.ok)(hi:i<S.Au.length) :
  Ab ARt 52 #[ptr y.sb,I Z i] w fun e w'=>e=O (ptr (y.xb i))/\w=w':=by
 obtain⟨g,cap,e,hc,hcap⟩:=h.DD i hi;obtain⟨vq,vl,vm,hb,_⟩:=h.AM;unfold qw at hb;rw[e]at hb;have c:=hb.cell;have hI:(i:Int)<(S.Au.length:Int):=by omega
 have h8:=hk.t8;clear h hk;go_enter func52,ntmps52;go_wp2_with fail;go_ret;exact⟨rfl,rfl⟩
def Ey.cell {id xb lb:Nat}(h:Ey w o id i xb lb x):∃ vt,∀ j,w.cell? ⟨xb,j,none⟩=(#[I Z i,.bool x.live,I Z x.start,I Z x.seen,ptr lb,vt]:Array Ac)[j]?:=by
 obtain⟨vt,hb,_⟩:=h.AM;exact⟨vt,hb.cell⟩
def yf (h:Aq w o y S)(hk:S.ok)(hx:S.Au[i]?=some x) :
  Ab ARt 72 #[ptr y.sb,I Z i] w fun e w'=>e=O (if x.live then ptr (y.xb i) else Ag none)/\w=w':=by
 have HT:=Qa (Uw h hk (Qc.1 hx).1);obtain⟨vt,c⟩:=(h.Au i x hx).cell;clear h hk hx
 cases hl:x.live
 all_goals
  rw[hl]at c;go_enter func72,ntmps72;go_wp2_with fail;refine HT.out.mono ?_;rintro e w1⟨rfl,rfl⟩;go_wp2_with fail;go_ret;exact⟨rfl,rfl⟩
def MD (h:Aq w o y S)(hk:S.ok)(hx:S.Au[i]?=some x) :
  Ab ARt 21 #[ptr y.sb,I Z i] w fun e w'=>e=O (Aj #[I Z (if x.live then (x.start:Int) else 0),.bool x.live])/\w=w':=by
 have HT:=Qa (yf h hk hx);obtain⟨vt,c⟩:=(h.Au i x hx).cell;clear h hk hx
 cases hl:x.live
 all_goals
  rw[hl]at c HT;try simp only[if_true,if_false,Bool.false_eq_true]at HT ⊢
  go_enter func21,ntmps21;go_wp2_with fail;refine HT.out.mono ?_;rintro e w1⟨rfl,rfl⟩;go_wp2_with fail;go_ret2;exact⟨rfl,rfl⟩
def qlp (h:Aq w o y S)(hk:S.ok)(p:Nat) :
  Ab ARt 155 #[ptr y.sb,I Z p] w fun e w'=>e=O (Aj #[I Z ((S.H.C2 p).1:Nat),I Z ((S.H.C2 p).2:Nat)])/\Ae w.1.size w w':=by
 have HC:=Qa (Ky h hk p);obtain⟨vq,vl,vm,hb,_⟩:=h.AM;unfold qw at hb;have c:=hb.cell;generalize (((S.H.C2 p).1:Nat):Int)=r at *;generalize (((S.H.C2 p).2:Nat):Int)=q at *;clear h hk;go_enter func155,ntmps155;go_wp2_with fail;refine HC.out.mono ?_
 rintro e w1⟨rfl,hb1⟩
 go_wp2_with fail;go_ret2;exact⟨rfl,hb1⟩
def Us (v:Nat)(hv:v<=2199023255552)(hs:uq v)(w:Aa):Ab ARt 142 #[.int .u64 v] w fun e w' =>
  e=O (Aj #[I Z (if v%2=1 then ((v/2:Nat):Int) else 0),I Z (if v%2=1 then 0 else ((v/2:Nat):Int)),.bool (decide (v%2=1))])/\w=w':=by
 by_cases h:v%2=1
 ·have h8:=hs h
  have e1:(v:Int)=2*((v/2:Nat):Int)+1:=by omega
  rw[e1,if_pos h,if_pos h,decide_eq_true h];exact qlu _ ⟨by omega,by omega⟩ w
 ·have e1:(v:Int)=2*((v/2:Nat):Int):=by omega
  rw[e1,if_neg h,if_neg h,decide_eq_false h];exact qk5 _ ⟨by omega,by omega⟩ w
def U1 (h:Aq w o y S)(hk:S.ok)(hx:S.Au[i]?=some x)(p:Nat) :
  Ab ARt 82 #[ptr y.sb,ptr (y.xb i),I Z p] w fun e w'=>e=O (.bool (xz i x.start (S.H.sec p)))/\Ae w.1.size w w':=by
 have HC:=Qa (US h hk p);obtain⟨hs,hv⟩:=hk.sec p;have HO:=Qa (fun w=>Us (S.H.sec p) hv hs w)
 obtain⟨vq,vl,vm,hb,_⟩:=h.AM;unfold qw at hb;have c:=hb.cell;obtain⟨vt,jx,_⟩:=(h.Au i x hx).AM;unfold zw at jx;unfold xz;generalize S.H.sec p=v at *;clear h hk hx hs hv;by_cases hv:v%2=1
 ·rw[if_pos hv]
  rw[if_pos hv,if_pos hv,decide_eq_true hv]at HO;have hd:decide (v/2≠i)=decide ((((v/2:Nat):Int))≠(i:Int)):=by
   rw[aa];simp only[decide_eq_true_eq];omega
  rw[hd];generalize ((v/2:Nat):Int)=q at *;clear hv hd;go_enter func82,ntmps82;go_wp2_with fail;refine HC.out.mono ?_;rintro e w1⟨er,rfl,hb1⟩;have cx:=(jx.below hb1 jx.lt).cell;go_wp2_with fail;refine (HO.out _).mono ?_;rintro e w2⟨rfl,rfl⟩;go_wp2_with fail;go_ret;exact⟨by simp[bne,BEq.beq],hb1⟩
 ·rw[if_neg hv]
  rw[if_neg hv,if_neg hv,decide_eq_false hv]at HO;have hd:decide (x.start<v/2)=decide ((x.start:Int)<(((v/2:Nat):Int))):=by
   rw[aa];simp only[decide_eq_true_eq];omega
  rw[hd];generalize ((v/2:Nat):Int)=q at *;clear hv hd;go_enter func82,ntmps82;go_wp2_with fail;refine HC.out.mono ?_;rintro e w1⟨er,rfl,hb1⟩;have cx:=(jx.below hb1 jx.lt).cell;go_wp2_with fail;refine (HO.out _).mono ?_;rintro e w2⟨rfl,rfl⟩;go_wp2_with fail;go_ret;exact⟨rfl,hb1⟩
def Kd (h:Aq w o y S)(hk:S.ok)(hx:S.Au[i]?=some x)(p:Nat) :
  Ab ARt 169 #[ptr y.sb,ptr (y.xb i),I Z p] w fun e w'=>e=O (Aj #[])/\Bl y { S with H:=(S.H.AJ p (2*i+1)).1 } o w w':=by
 have h8:=hk.t8;have hi:=(Qc.1 hx).1;have HC:=WH h hk p (2*i+1) (by omega)
 have HO:=Qa (fun w=>U6 i ⟨by omega,by omega⟩ w)
 have ei:((2*i+1:Nat):Int)=2*(i:Int)+1:=by omega
 rw[ei]at HC;generalize (S.H.AJ p (2*i+1))=r at *;replace HC:=Qa HC;generalize 2*(i:Int)+1=q at HC HO;obtain⟨vq,vl,vm,hb,_⟩:=h.AM;unfold qw at hb;have c:=hb.cell;obtain⟨vt,cx⟩:=(h.Au i x hx).cell;clear h hk hx hi h8 ei;go_enter func169,ntmps169;go_wp2_with fail;refine (HO.out _).mono ?_
 rintro e w1 ⟨rfl,rfl⟩
 go_wp2_with fail;refine HC.out.mono ?_
 rintro e w2 ⟨rfl,hl⟩
 go_wp2_with fail;go_end0;exact⟨rfl,hl⟩
def qjr (h:Aq w o y S)(hk:S.ok)(p v:Nat)(hv:v<=1099511627776) :
  Ab ARt 84 #[ptr y.sb,I Z p,I Z v] w fun e w'=>e=O (Aj #[])/\Bl y { S with H:=(S.H.AJ p (2*v)).1 } o w w':=by
 have HC:=WH h hk p (2*v) (by omega)
 have HO:=Qa (fun w=>Tp v ⟨by omega,by omega⟩ w)
 have ei:((2*v:Nat):Int)=2*(v:Int):=by omega
 rw[ei]at HC;generalize (S.H.AJ p (2*v))=r at *;replace HC:=Qa HC;generalize 2*(v:Int)=q at HC HO;obtain⟨vq,vl,vm,hb,_⟩:=h.AM;unfold qw at hb;have c:=hb.cell;clear h hk hv ei;go_enter func84,ntmps84;go_wp2_with fail;refine (HO.out _).mono ?_
 rintro e w1 ⟨rfl,rfl⟩
 go_wp2_with fail;refine HC.out.mono ?_
 rintro e w2 ⟨rfl,hl⟩
 go_wp2_with fail;go_end0;exact⟨rfl,hl⟩
def Tx.ended (x:Tx):Tx:={ x with live:=false,log:={ x.log with reads:=[],keeps:=[],holds:=[],Ay:=[] },AP:=[] }
def SI (h:Aq w o y S)(hx:S.Au[i]?=some x) :
  Ab ARt 80 #[ptr y.sb,ptr (y.xb i)] w fun e w'=>e=O (Aj #[])/\Bl y (S.tx i x.ended) o w w':=by
 have ht:=h.Au i x hx;obtain⟨vr,vk,vh,vu,hl⟩:=ht.log;have HR:=Qa (qog hl);have HI:=Qa h;obtain⟨vt,jx,hrow⟩:=ht.AM;have iR:=Qa hrow;unfold zw at jx;have c:=jx.cell;have ob:=ht.ob;clear h hl ht hx hrow;go_enter func80,ntmps80;go_wp2_with fail;refine HR.out.mono ?_
 rintro e w1 ⟨rfl,hl1,hs1⟩
 have j1:=jx.Ao hs1 (by rw[ob];simp)
 clear c jx;have c:=j1.cell;have z:=j1.free;have s:=j1.lt;go_wp2_with fail;go_end0;have hs2:Stp (pj y i) o o w1 ((w1.setCell ⟨y.xb i,5,none⟩ (Ah none 0 0)).setCell ⟨y.xb i,1,none⟩ (.bool false)):=
  ((Stp.refl _ o w1).setCell (by show pj y i (o (y.xb i));rw[ob];exact⟨rfl,by simp,by simp⟩) _).setCell (by show pj y i (o (y.xb i));rw[ob];exact⟨rfl,by simp,by simp⟩) _
 have hs3:Stp (fun t=>t=(y.l.id,16+8*i)) o o w1 ((w1.setCell ⟨y.xb i,5,none⟩ (Ah none 0 0)).setCell ⟨y.xb i,1,none⟩ (.bool false)):=
  ((Stp.refl _ o w1).setCell (by show o (y.xb i)=_;exact ob) _).setCell (by show o (y.xb i)=_;exact ob) _
 have hs:Stp (pj y i) o o w _:=(hs1.mono (by rintro _ rfl;exact⟨rfl,by simp,by simp⟩)).trans hs2
 exact⟨rfl,o,HI.out.tx ⟨⟨_,(j1.set 5 _).set 1 _,Row.nil _ _ _ _ _⟩,⟨_,_,_,_,hl1.Ao hs3 fun j hj=>by simp;omega⟩,ob⟩ hs,hs.mono fun _=>To⟩
end
def xw {w:Aa}{B:Nat}{cs:Array Ac}{t:TypeId}(h:Al w B cs t):∀ j u,cs.toList[j]?=some u->w.cell? ((⟨B,0,none⟩:Addr).add j)=some u:=fun j u hu=>by
 have hadd:(⟨B,0,none⟩:Addr).add j=⟨B,j,none⟩:=by unfold Addr.add;split<;>simp_all
 rw[hadd,h.cell];simpa using hu
def qmq {n b:Nat}(h:n<=4096)(hb:b<=64):n+1<=maxLen/\(n+1)*b<=140737488355328:=by
 constructor
 ·simp only[maxLen];omega
 ·have:(n+1)*b<=4097*64:=Nat.mul_le_mul (by omega) hb
  omega
abbrev Wc (u:Un):Ac:=Ak #[nv u.kind,nv u.pos,nv u.i,I Z u.old]
section
variable {w : Aa} {o : Own} {id k b : Nat} {L : Lg} {vr vk vh vu : Ac}
def qe3 (h:Bo w o id k b L vr vk vh vu)(u:Un)(hm:L.mu<=L.Ay.length) :
  Ab ARt 120 #[Ag (some ⟨b,0,none⟩),Wc u] w fun e w'=>e=O (.bool false)/\Ae w.1.size w w':=by
 have j:=h.AM;have c:=h.AM.cell;have s:=h.AM.lt;obtain⟨pa,cp,rfl⟩:=h.ru.AS;have oU:(L.mu:Int)<=(L.Ay.length:Int):=by omega
 clear h;go_enter func120,ntmps120;go_upto_region 1 with fail;go_quiet (fail);go_wp2_with fail;go_ret;exact⟨rfl,qx (qc (qd w) _) _⟩
def qez (h:Bo w o id k b L vr vk vh vu) (hk:L.ok) (u:Un) (hm:L.Ay.length<L.mu) :
  Ab ARt 120 #[Ag (some ⟨b,0,none⟩),Wc u] w fun e w'=>e=O (.bool true) /\
   ∃ vu' o',Bo w' o' id k b { L with Ay:=L.Ay++[u] } vr vk vh vu'/\Stp (fun t=>t=(id,k)\/t=(id,k+4)) o o' w w':=by
 have HI:=Qa h;have j:=h.AM;have c:=h.AM.cell;have s:=h.AM.lt;obtain⟨pa,cp,rfl⟩:=h.ru.AS;have oU:(L.Ay.length:Int)<(L.mu:Int):=by omega
 have hw:=Qa (qmq (n:=L.Ay.length) (b:=32) (by have:=hk.u;have:=hk.mu;omega) (by omega))
 obtain⟨iU,hi,hsI,bZ,bT⟩:=XN;have hu64:=underlying212;clear h hk hm;go_enter func120,ntmps120;go_upto_region 1 with fail;go_quiet (fail);go_upto_region 3 with fail;obtain⟨W,hW⟩:=Ja0 ((w.alloc (ARu #[nv u.kind,nv u.pos,nv u.i,I Z u.old] 175)).drewN nq);rw[<-hW];have hbW:Ae w.1.size w W:=by rw[hW];exact qx (qc (qd w) _) _
 have jB:Al W w.1.size #[nv u.kind,nv u.pos,nv u.i,I Z u.old] 175:=by rw[hW];exact (Al.new w _ _).drewN _
 have jL:=j.below hbW j.lt;clear hW c s;have cL:=jL.cell;have sL:=jL.lt;have cB:=jB.cell;have sB:=jB.lt;have rn:=(HI.out.ru.below hbW).below (qc (qf (qd W)) (ARu #[nv u.kind,nv u.pos,nv u.i,I Z u.old] 175));have jn:=Al.new W.drew #[nv u.kind,nv u.pos,nv u.i,I Z u.old] 175;have hone:=XI [u];have hkeep:=fun (w1:Aa) (o1:Own) (hst:Stp (fun t=>t=(id,k+4)) o o1 (W.drew.alloc (ARu #[nv u.kind,nv u.pos,nv u.i,I Z u.old] 175)) w1)=>(Al.alloc (qj jL) (ARu #[nv u.kind,nv u.pos,nv u.i,I Z u.old] 175)).Ao hst (by rw[HI.out.ob];simp)
 have hfin:=Qa (fun (w1:Aa) (o1:Own) (pa':Option Addr) (cp':Nat) (hown:Row w1 o1 (id,k+4) 175 4 (.slice pa' (L.Ay.length+1) cp') (L.Ay.length+1) (zk L.Ay++[nv u.kind,nv u.pos,nv u.i,I Z u.old])) (hst:Stp (fun t=>t=(id,k+4)) o o1 (W.drew.alloc (ARu #[nv u.kind,nv u.pos,nv u.i,I Z u.old] 175)) w1) =>
  show ∃ vu' o',Bo (w1.setCell ⟨b,5,none⟩ (.slice pa' (L.Ay.length+1) cp')) o' id k b { L with Ay:=L.Ay++[u] } vr vk vh vu'/\Stp (fun t=>t=(id,k)\/t=(id,k+4)) o o' w (w1.setCell ⟨b,5,none⟩ (.slice pa' (L.Ay.length+1) cp')) from by
   have h:=HI.out;have hlt:b<(W.drew.alloc (ARu #[nv u.kind,nv u.pos,nv u.i,I Z u.old] 175)).1.size:=(Al.alloc (qj jL) _).lt;have ho1:o1 b=(id,k):=by rw[hst.tags b hlt];exact h.ob
   have k1:Stp (fun t=>t=(id,k)) o1 o1 w1 (w1.setCell ⟨b,5,none⟩ (.slice pa' (L.Ay.length+1) cp')):=(Stp.refl _ o1 w1).setCell (by simpa using ho1) _
   have S:Stp (fun t=>t=(id,k)\/t=(id,k+4)) o o1 w (w1.setCell ⟨b,5,none⟩ (.slice pa' (L.Ay.length+1) cp')):=
    (Stp.of_below (hbW.trans ((qc (qf (qd W)) _).mono hbW.size))).trans ((hst.mono fun _ e=>Or.inr e).trans (k1.mono fun _ e=>Or.inl e))
   refine⟨_,o1,⟨(hkeep _ _ hst).set 5 _,h.rr.Ao S (by simp),h.rk.Ao S (by simp),h.rh.Ao S (by simp),?_,ho1⟩,S⟩
   have hr:=hown.Ao k1 (by simp)
   show Row _ o1 (id,k+4) 175 4 _ (L.Ay++[u]).length (zk (L.Ay++[u]));rw[qim];simpa using hr)
 go_region_law ((refine qv _ (by rfl) _ _ _ (by rfl) 175 iU _ 4 32 hu64 hi bT hsI bZ (by rfl) (by decide) o (id,k+4) _ _ _ (by rfl) rn ⟨W.1.size,0,none⟩ 1 1 [nv u.kind,nv u.pos,nv u.i,I Z u.old] (by rfl) (by rfl) (xw jn) hone hw.out.1 hw.out.2 ?_;intro v' w1 hown hst;obtain⟨pa',cp',rfl⟩:=hown.AS;have jX:=hkeep _ _ hst;have cX:=jX.cell;have zX:=jX.free;have sX:=jX.lt))
 all_goals
  go_wp2_with fail;go_ret;exact⟨rfl,hfin.out _ _ _ _ hown hst⟩
end
section
variable {w : Aa} {o : Own} {id k b : Nat} {L : Lg} {vr vk vh vu : Ac}
def Row.Ez {w:Aa}{o:Own}{t:Tag}{l:List (Nat×Nat)}{g n cap:Nat}(h:Row w o t 131 2 (Ah (some ⟨g,0,none⟩) n cap) n (qk l))(i:Nat)(x:Nat×Nat)(hx:l[i]?=some x) :
  w.cell? ⟨g,i*2,none⟩=some (nv x.1)/\w.cell? ⟨g,i*2+1,none⟩=some (nv x.2):=by
 have h2:=yu l i x hx;have f:=fun j u hu=>h.own.cells (g:=g) rfl j u hu
 have e:∀ j,(⟨g,0,none⟩:Addr).add j=⟨g,j,none⟩:=fun j=>by unfold Addr.add;split<;>simp_all
 have a1:=f _ _ h2.1;have a2:=f _ _ h2.2;rw[e]at a1 a2;rw[Nat.mul_comm i 2];exact⟨a1,a2⟩
def qeu (h:Bo w o id k b L vr vk vh vu) (hk:L.ok) (p v:Nat) (hp:∀ x ∈ L.holds,x.1≠p) (hm:L.holds.length<L.mu) :
  Ab ARt 168 #[Ag (some ⟨b,0,none⟩),Ak #[I Z p,I Z v]] w fun e w'=>e=O (.bool true) /\
   ∃ vh' o',Bo w' o' id k b { L with holds:=L.holds++[(p,v)] } vr vk vh' vu/\Stp (fun t=>t=(id,k)\/t=(id,k+3)) o o' w w':=by
 have HI:=Qa h;have HP:=Qa hp;have j:=h.AM;have c:=h.AM.cell;have s:=h.AM.lt;obtain⟨pa,cp,rfl⟩:=h.rh.AS;have oU:(L.holds.length:Int)<(L.mu:Int):=by omega
 have hlen:=Qa (show L.holds.length<=200 by have:=hk.h;have:=hk.mu;omega)
 have hw:=Qa (qmq (n:=L.holds.length) (b:=16) (by have:=hk.h;have:=hk.mu;omega) (by omega))
 obtain⟨iU,hi,hsI,bZ,bT⟩:=YN;have hu64:=underlying126;clear h hk hm hp;go_enter func168,ntmps168;go_wp2_with fail;go_loopw [14] (fun ix wr=>∃ i:Nat,ix=I Z i/\i<=L.holds.length/\Ae w.1.size w wr/\Al wr w.1.size #[I Z p,I Z v] 131) (fun ix _=>L.holds.length-(intOf ix).toNat)
 case atStart=>exact⟨0,rfl,by omega,qc (qd w) _,Al.new w _ _⟩
 case round =>
  obtain⟨i,rfl,hil,hbr,jB⟩:=hrel;clear c s;have jL:=j.below hbr j.lt;have cL:=jL.cell;have sL:=jL.lt;have cB:=jB.cell;have sB:=jB.lt;have hR:=HI.out.rh.below hbr;by_cases hlt:i<L.holds.length
  ·obtain⟨x,hx⟩:∃ x,L.holds[i]?=some x:=⟨_,Qb hlt⟩
   have hne:(x.1:Int)≠(p:Int):=by have:=HP.out x (Qe hx);omega
   rcases hR.own.2 with ⟨e1,e2⟩|⟨g,cap,cur,e1,_,hg,hn,hc,_⟩
   ·omega
   ·injection e1 with e1 _ e2
    subst e1 e2;obtain⟨c0,c1⟩:=hR.Ez i x hx;have sg:g<wr.1.size:=(Qf.1 hg).1;have hI:(i:Int)<(L.holds.length:Int):=by omega
    have hI2:(i:Int)<200:=by have:=hlen.out;omega
    unfold nv at c0 c1;clear hg hR hx hc;go_wp2_with fail;go_roundw
    case rel=>exact⟨i+1,by simp,by omega,qc hbr _,jB.alloc _⟩
    case measure=>simp[intOf];omega
  ·obtain rfl:i=L.holds.length:=by omega
   go_upto_region 9 with fail;go_quiet (fail);go_upto_region 11 with fail;obtain⟨W,hW⟩:=Ja0 (wr.drewN nq);rw[<-hW];have hbW:Ae w.1.size w W:=by rw[hW];exact qx hbr _
   have jB:Al W w.1.size #[I Z p,I Z v] 131:=by rw[hW];exact jB.drewN _
   have jL:=j.below hbW j.lt;clear hW hR cL sL cB sB;have cL:=jL.cell;have sL:=jL.lt;have cB:=jB.cell;have sB:=jB.lt;have rn:=(HI.out.rh.below hbW).below (qc (qf (qd W)) (ARu #[I Z p,I Z v] 131));have jn:=Al.new W.drew #[I Z p,I Z v] 131;have hone:=ug [(p,v)];have hkeep:=fun (w1:Aa) (o1:Own) (hst:Stp (fun t=>t=(id,k+3)) o o1 (W.drew.alloc (ARu #[I Z p,I Z v] 131)) w1)=>(Al.alloc (qj jL) (ARu #[I Z p,I Z v] 131)).Ao hst (by rw[HI.out.ob];simp)
   have hfin:=Qa (fun (w1:Aa) (o1:Own) (pa':Option Addr) (cp':Nat) (hown:Row w1 o1 (id,k+3) 131 2 (.slice pa' (L.holds.length+1) cp') (L.holds.length+1) (qk L.holds++[I Z p,I Z v])) (hst:Stp (fun t=>t=(id,k+3)) o o1 (W.drew.alloc (ARu #[I Z p,I Z v] 131)) w1) =>
    show ∃ vh' o',Bo (w1.setCell ⟨b,4,none⟩ (.slice pa' (L.holds.length+1) cp')) o' id k b { L with holds:=L.holds++[(p,v)] } vr vk vh' vu/\Stp (fun t=>t=(id,k)\/t=(id,k+3)) o o' w (w1.setCell ⟨b,4,none⟩ (.slice pa' (L.holds.length+1) cp')) from by
     have h:=HI.out;have hlt:b<(W.drew.alloc (ARu #[I Z p,I Z v] 131)).1.size:=(Al.alloc (qj jL) _).lt;have ho1:o1 b=(id,k):=by rw[hst.tags b hlt];exact h.ob
     have k1:Stp (fun t=>t=(id,k)) o1 o1 w1 (w1.setCell ⟨b,4,none⟩ (.slice pa' (L.holds.length+1) cp')):=(Stp.refl _ o1 w1).setCell (by simpa using ho1) _
     have S:Stp (fun t=>t=(id,k)\/t=(id,k+3)) o o1 w (w1.setCell ⟨b,4,none⟩ (.slice pa' (L.holds.length+1) cp')):=
      (Stp.of_below (hbW.trans ((qc (qf (qd W)) _).mono hbW.size))).trans ((hst.mono fun _ e=>Or.inr e).trans (k1.mono fun _ e=>Or.inl e))
     refine⟨_,o1,⟨(hkeep _ _ hst).set 4 _,h.rr.Ao S (by simp),h.rk.Ao S (by simp),?_,h.ru.Ao S (by simp),ho1⟩,S⟩
     have hr:=hown.Ao k1 (by simp)
     show Row _ o1 (id,k+3) 131 2 _ (L.holds++[(p,v)]).length (qk (L.holds++[(p,v)]));rw[fx];simpa [nv] using hr)
   go_region_law ((refine qv _ (by rfl) _ _ _ (by rfl) 131 iU _ 2 16 hu64 hi bT hsI bZ (by rfl) (by decide) o (id,k+3) _ _ _ (by rfl) rn ⟨W.1.size,0,none⟩ 1 1 [I Z p,I Z v] (by rfl) (by rfl) (xw jn) hone hw.out.1 hw.out.2 ?_;intro v' w1 hown hst;obtain⟨pa',cp',rfl⟩:=hown.AS;have jX:=hkeep _ _ hst;have cX:=jX.cell;have zX:=jX.free;have sX:=jX.lt))
   all_goals
    go_wp2_with fail;go_ret;exact⟨rfl,hfin.out _ _ _ _ hown hst⟩
def rz (h:Bo w o id k b L vr vk vh vu)(hk:L.ok)(p v:Nat)(hp:∀ x ∈ L.holds,x.1≠p)(hm:L.mu<=L.holds.length) :
  Ab ARt 168 #[Ag (some ⟨b,0,none⟩),Ak #[I Z p,I Z v]] w fun e w'=>e=O (.bool false)/\Ae w.1.size w w':=by
 have HI:=Qa h;have HP:=Qa hp;have j:=h.AM;have c:=h.AM.cell;have s:=h.AM.lt;obtain⟨pa,cp,rfl⟩:=h.rh.AS;have oU:(L.mu:Int)<=(L.holds.length:Int):=by omega
 have hlen:=Qa (show L.holds.length<=200 by have:=hk.h;have:=hk.mu;omega)
 clear h hk hm hp;go_enter func168,ntmps168;go_wp2_with fail;go_loopw [14](fun ix wr=>∃ i:Nat,ix=I Z i/\i<=L.holds.length/\Ae w.1.size w wr/\Al wr w.1.size #[I Z p,I Z v] 131)(fun ix _=>L.holds.length-(intOf ix).toNat)
 case atStart=>exact⟨0,rfl,by omega,qc (qd w) _,Al.new w _ _⟩
 case round =>
  obtain⟨i,rfl,hil,hbr,jB⟩:=hrel;clear c s;have jL:=j.below hbr j.lt;have cL:=jL.cell;have sL:=jL.lt;have cB:=jB.cell;have sB:=jB.lt;have hR:=HI.out.rh.below hbr;by_cases hlt:i<L.holds.length
  ·obtain⟨x,hx⟩:∃ x,L.holds[i]?=some x:=⟨_,Qb hlt⟩
   have hne:(x.1:Int)≠(p:Int):=by have:=HP.out x (Qe hx);omega
   rcases hR.own.2 with ⟨e1,e2⟩|⟨g,cap,cur,e1,_,hg,hn,hc,_⟩
   ·omega
   ·injection e1 with e1 _ e2
    subst e1 e2;obtain⟨c0,c1⟩:=hR.Ez i x hx;have sg:g<wr.1.size:=(Qf.1 hg).1;have hI:(i:Int)<(L.holds.length:Int):=by omega
    have hI2:(i:Int)<200:=by have:=hlen.out;omega
    unfold nv at c0 c1;clear hg hR hx hc;go_wp2_with fail;go_roundw
    case rel=>exact⟨i+1,by simp,by omega,qc hbr _,jB.alloc _⟩
    case measure=>simp[intOf];omega
  ·obtain rfl:i=L.holds.length:=by omega
   go_upto_region 9 with fail;go_quiet (fail);go_wp2_with fail;go_ret;exact⟨rfl,qx hbr _⟩
def YG (n:Nat)(h:n<=200)(w:Aa):Ab ARt 166 #[I Z n] w fun e w'=>e=O (I Z n)/\w=w':=by
 have e1:max (n:Int) 0=n:=by omega
 have e2:min (n:Int) 200=n:=by omega
 go_enter func166,ntmps166;go_wp2_with fail;go_ret;exact⟨rfl,rfl⟩
def Lg.fresh (mr mu:Nat):Lg:=⟨mr,mu,[],[],[],[]⟩
def MF (mr mu:Nat)(h1:mr<=200)(h2:mu<=200)(w:Aa) :
  Ab ARt 104 #[I Z mr,I Z mu] w fun e w'=>e=O (Ag (some ⟨w.1.size,0,none⟩)) /\
   Al w' w.1.size #[I Z mr,I Z mu,Ah none 0 0,Ah none 0 0,Ah none 0 0,Ah none 0 0] 219/\Ae w.1.size w w'/\w'.1.size=w.1.size+1:=by
 have H1:=Qa (fun w=>YG mr h1 w)
 have H2:=Qa (fun w=>YG mu h2 w)
 go_enter func104,ntmps104;go_wp2_with fail;refine (H1.out _).mono ?_
 rintro e w1 ⟨rfl,rfl⟩
 go_wp2_with fail;refine (H2.out _).mono ?_
 rintro e w1 ⟨rfl,rfl⟩
 go_wp2_with fail;go_ret;exact⟨rfl,Al.Ap _ _ _ _ _ rfl (by simp),qc (qd w) _,by simp⟩
end
def run_equalIn_nil_nil {P:Program}(w:Aa)(d:Nat)(t:TypeId){ps rs:Array TypeId}{b:Bool}(h:P.underlying t=some (.func ps rs b)):(Op.equalIn (d+1) t .nilFunc .nilFunc).run P w=.ok true w:=by simp[Op.equalIn,run_underlying h]
def fw {P:Program}(w:Aa)(d:Nat)(t:TypeId){ps rs:Array TypeId}{b:Bool}(f:Fn)(a c:Array Ac)(h:P.underlying t=some (.func ps rs b)):(Op.equalIn (d+1) t (.func f a c) .nilFunc).run P w=.ok false w:=by simp[Op.equalIn,run_underlying h]
def run_neq_nil_nil {P:Program}(w:Aa)(t:TypeId){ps rs:Array TypeId}{b:Bool}(h:P.underlying t=some (.func ps rs b)):(binOp .neq t .nilFunc .nilFunc).run P w=.ok (.bool false) w:=by
 have h1:(Op.equal t .nilFunc .nilFunc).run P w=.ok true w:=run_equalIn_nil_nil w 9999 t h;simp only[binOp];simp[h1]
def mc {P:Program}(w:Aa)(t:TypeId){ps rs:Array TypeId}{b:Bool}(f:Fn)(a c:Array Ac)(h:P.underlying t=some (.func ps rs b)):(binOp .neq t (.func f a c) .nilFunc).run P w=.ok (.bool true) w:=by
 have h1:(Op.equal t (.func f a c) .nilFunc).run P w=.ok false w:=fw w 9999 t f a c h;simp only[binOp];simp[h1]
structure CX (w:Aa)(o:Own)(l:A7)(cy n:Nat)(rd ls:List Nat):Prop where
 AM:∃ vr vl,Al w cy #[ptr l.h,E3 cy n,vr,vl] 201/\Row w o (l.id,8) 3 1 vr rd.length (rd.map nv)/\Row w o (l.id,9) 3 1 vl ls.length (ls.map nv)
 oc:o cy=(l.id,7)
section
variable {w w' : Aa} {o o' : Own} {l : A7} {cy n : Nat} {rd ls : List Nat}
def CX.Ao {T:Tag->Prop}(h:CX w o l cy n rd ls)(hs:Stp T o o' w w')(h7:¬T (l.id,7))(h8:¬T (l.id,8))(h9:¬T (l.id,9)):CX w' o' l cy n rd ls:=by
 obtain⟨vr,vl,hb,h1,h2⟩:=h.AM;exact⟨⟨vr,vl,hb.Ao hs (by rw[h.oc];exact h7),h1.Ao hs h8,h2.Ao hs h9⟩,(hs.tags _ hb.lt).trans h.oc⟩
def p9 (h:CX w o l cy n rd ls)(hn:n<=2):Ab ARt 60 #[ptr cy] w fun e w'=>e=O (.bool (decide (n≠0)))/\w=w':=by
 obtain⟨vr,vl,hb,_,_⟩:=h.AM;have c:=hb.cell;clear h hb;obtain rfl|rfl|rfl:n=0\/n=1\/n=2:=by omega
 ·have c1:w.cell? ⟨cy,1,none⟩=some .nilFunc:=c 1
  have hne:=run_neq_nil_nil w 23 underlying23;clear c;go_enter func60,ntmps60;go_wp2_with fail;go_ret;exact⟨rfl,rfl⟩
 ·have c1:w.cell? ⟨cy,1,none⟩=some (.func (.func 126) #[ptr cy] #[]):=c 1
  have hne:=mc w 23 (.func 126) #[ptr cy] #[] underlying23;clear c;go_enter func60,ntmps60;go_wp2_with fail;go_ret;exact⟨rfl,rfl⟩
 ·have c1:w.cell? ⟨cy,1,none⟩=some (.func (.func 190) #[ptr cy] #[]):=c 1
  have hne:=mc w 23 (.func 190) #[ptr cy] #[] underlying23;clear c;go_enter func60,ntmps60;go_wp2_with fail;go_ret;exact⟨rfl,rfl⟩
def F1 {H:Hp}(h:Bp w o l H)(hk:H.ok)(p:Nat) :
  Ab ARt 173 #[ptr l.h,I Z p] w fun e w'=>e=O (I Z ((H.AB p).2:Nat))/\∃ o',Bp w' o' l (H.AB p).1/\Stp (zu l) o o' w w':=by
 obtain⟨vc,vo,vw,vf,f,hh⟩:=h;refine (bf hh hk p).mono ?_
 rintro e w'⟨rfl,bM,f',o',h',hs⟩
 exact⟨rfl,o',⟨bM,vo,vw,vf,f',h'⟩,hs⟩
def mf (k n:Nat)(h:k<n)(hn:n<=1099511627776):wrap64 ((k:Int)+1)=(k:Int)+1/\IntKind.i64.wrap ((k:Int)+1)=(k:Int)+1:=by
 have h1:(-9223372036854775808:Int)<=(k:Int)+1/\(k:Int)+1<=9223372036854775807:=by omega
 exact⟨IntWalk.wrap64_in _ h1,IntWalk.i64_in _ h1⟩
def Lj (k n:Nat)(h:k<n)(hn:n<=8796093022208):wrap64 ((k:Int)+1)=(k:Int)+1/\IntKind.i64.wrap ((k:Int)+1)=(k:Int)+1:=by
 have h1:(-9223372036854775808:Int)<=(k:Int)+1/\(k:Int)+1<=9223372036854775807:=by omega
 exact⟨IntWalk.wrap64_in _ h1,IntWalk.i64_in _ h1⟩
def Ly (k n:Nat)(h:k<n)(hn:n<=8796093022208):k+1<=maxLen/\(k+1)*8<=140737488355328:=by
 simp only[maxLen];omega
def hOr (l:A7)(tg:Tag)(t:Tag):Prop:=zu l t\/t=tg
def qkm {H:Hp}(hH:Bp w o l H)(hk:H.wf){vp vr vl:Ac}(jc:Al w cy #[ptr l.h,vp,vr,vl] 201)(oc:o cy=(l.id,7)){v:Ac}{ps:List Nat}{ta:Tag}(hv:Row w o ta 3 1 v ps.length (ps.map nv))(hp:ps.length<=8796093022208)
  (tg:Tag)(na:¬zu l ta)(ng:¬zu l tg)(nag:ta≠tg)(n7:tg≠(l.id,7)) :
  Ab ARt 127 #[ptr cy,v] w fun e w'=>∃ v' o',e=O v'/\Bp w' o' l (H.Ax ps).1/\Row w' o' tg 3 1 v' ps.length ((H.Ax ps).2.map nv)/\Stp (hOr l tg) o o' w w':=by
 obtain⟨iI,hi,hsI,bZ,bT⟩:=jh;have hu64:=underlying25;have n7h:¬zu l (l.id,7):=fun hh=>by have:=hh.2;simp at this
 have HV:=Qa hv;have HJ:=Qa jc;have HH:=Qa hH;have HK:=Qa hk;have HP:=Qa hp;have HO:=Qa oc;have HNA:Hid (¬hOr l tg ta):=fun h=>h.elim na nag
 have HN7:Hid (¬hOr l tg (l.id,7)):=fun h=>h.elim n7h fun e=>n7 e.symm
 obtain⟨pa,cp,rfl⟩:=hv.AS;obtain⟨n',hn'⟩:=Ja0 ps.length;have HN:=Qa hn';rw[<-hn']at HV ⊢;clear hv jc hH hk hp oc hn';go_enter func127,ntmps127;go_wp2_with fail;go_loopw [5,7,10] (fun vv _ ix wr=>∃ (k:Nat)(oo:Own),ix=I Z k/\k<=n'/\Bp wr oo l (H.Ax (ps.take k)).1/\Row wr oo tg 3 1 vv k ((H.Ax (ps.take k)).2.map nv)/\Stp (hOr l tg) o oo w wr) (fun _ _ ix _=>n'-(intOf ix).toNat)
 case atStart=>exact⟨0,o,rfl,ai _,HH.out,Row.nil _ _ _ _ _,Stp.refl _ _ _⟩
 case round =>
  obtain⟨k,oo,rfl,hkn,hA,hr,hs⟩:=hrel;have jk:=HJ.out.Ao hs (by rw[HO.out];exact HN7.out)
  have hvk:=HV.out.Ao hs HNA.out;have c:=jk.cell;by_cases hlt:k<n'
  ·have gT:(k:Int)<(n':Int):=by omega
   obtain⟨x,hx⟩:∃ x,ps[k]?=some x:=⟨_,Qb (by rw[<-HN.out];omega)⟩
   have hsn:=pg (ps.take k) x H;rw[<-kh hx]at hsn;have HSN:=Qa hsn;have hM:=Qa (F1 hA (Hp.BU (ps.take k) HK.out).ok x);obtain⟨hw1,hw2⟩:=Lj k n' hlt (by rw[HN.out];exact HP.out)
   have hRR:=Qa hr;have kY:=Qa hs;have hk1:Hid (k+1<=maxLen/\(k+1)*8<=140737488355328):=Ly k n' hlt (by rw[HN.out];exact HP.out)
   obtain⟨pv,cv,rfl⟩:=hr.AS;rcases hvk.form with ⟨_,h0⟩|⟨g,cap,e,hcap⟩
   ·omega
   ·injection e with e1 _ e3
    subst e1 e3;have q0:wr.cell? ⟨g,k,none⟩=some (I Z x):=hvk.cells k _ (by rw[Qj,hx];rfl)
    clear hA hr hs hsn hvk hx;generalize H.Ax (ps.take k)=r at *;obtain⟨Hk,lk'⟩:=r;go_wp2_with fail;refine hM.out.mono ?_;rintro e w3 ⟨rfl,o3,h3,hs3⟩;have hR3:=Qa (hRR.out.Ao hs3 ng);go_wp2_with (first|(at_builtin;refine qi _ rfl _ _ _ rfl 3 iI _ 1 8 hu64 hi bT hsI bZ rfl (by decide) o3 tg _ _ _ rfl (Row.below hR3.out (qc (qd w3) _)) ⟨w3.1.size,0,none⟩ 1 1 [I Z (Hk.AB x).2] rfl rfl (zj (Al.new w3 _ _)) ka hk1.out.1 hk1.out.2 ?_;intro v' w8 hown hst)|fail)
    have gB:=qc (qd w3) (ARu #[I Z (Hk.AB x).2] 3);have h8:=h3.Ao (Stp.of_below (T:=fun _=>False) gB) fun _ _ h=>h;have h9:=h8.Ao hst fun j hj e=>ng (by rw[<-e];exact⟨rfl,by simp;omega⟩)
    have s9:=((kY.out.trans (hs3.mono fun _ h=>Or.inl h)).trans (Stp.of_below gB)).trans (hst.mono fun _ h=>Or.inr h);go_roundw
    case rel=>exact⟨k+1,_,by simp,by omega,by rw[HSN.out];exact h9,by rw[HSN.out,vx];exact hown,s9⟩
    case measure=>simp[intOf];omega
  ·obtain rfl:k=n':=by omega
   rw[HN.out,List.take_length]at hA hr;rw[<-HN.out]at hr;obtain⟨pv,cv,rfl⟩:=hr.AS;go_wp2_with fail;go_ret;exact⟨_,oo,rfl,hA,hr,hs⟩
end
section
variable {w w' : Aa} {o o' : Own} {l : A7} {cy n : Nat} {rd ls : List Nat}
def EV (l:A7)(t:Tag):Prop:=t.1=l.id/\(t.2<=7\/t.2=8\/t.2=9)
def nr {l:A7}{t:Tag}(h:zu l t):EV l t:=⟨h.1,.inl (by have:=h.2;omega)⟩
def qne {H:Hp}(h:Bp w o l H)(hw:H.wf) :
  Ab ARt 189 #[ptr l.h] w fun e w'=>∃ v o',e=O v/\Bp w' o' l H.A8.1/\Stp (zu l) o o' w w'/\Row w' o' (CY l) 3 1 v H.A8.2.length (H.A8.2.map nv):=by
 obtain⟨vc,vo,vw,vf,f,hh⟩:=h;refine (qlc hh hw).mono ?_
 rintro e w'⟨v,bM,eZ,f',o',rfl,h',hs,hr⟩
 exact⟨v,o',rfl,⟨bM,vo,vw,eZ,f',h'⟩,hs,hr⟩
def LB {H:Hp}(h:Bp w o l H)(hw:H.wf) :
  Ab ARt 242 #[ptr l.h] w fun e w'=>∃ v o',e=O (Aj #[v,.bool H.drop.2.2])/\Bp w' o' l H.drop.1/\Stp (zu l) o o' w w'/\Row w' o' (CY l) 3 1 v H.drop.2.1.length (H.drop.2.1.map nv):=by
 obtain⟨vc,vo,vw,vf,f,hh⟩:=h;refine (GV hh hw).mono ?_
 rintro e w'⟨v,bM,vo',gF,eZ,f',o',rfl,h',hs,hr⟩
 exact⟨v,o',rfl,⟨bM,vo',gF,eZ,f',h'⟩,hs,hr⟩
def qm4 {n m:Nat}(hn:n<=1099511627776)(hm:m<=1099511627776):n+m<=maxLen/\(n+m)*8<=140737488355328:=by
 simp only[maxLen];omega
def qic {H:Hp}(hH:Bp w o l H)(hw:H.wf)(h:CX w o l cy 2 rd ls)(h1:ls.length<=1099511627776)(h2:H.drop.2.1.length<=1099511627776) :
  Ab ARt 190 #[ptr cy] w fun e w'=>e=O (.bool true)/\∃ o',Bp w' o' l H.drop.1/\CX w' o' l cy 0 rd (ls++H.drop.2.1)/\Stp (EV l) o o' w w':=by
 obtain⟨iI,hi,hsI,bZ,bT⟩:=jh;have hu64:=underlying25;have n7:¬zu l (l.id,7):=fun hh=>by have:=hh.2;simp at this
 have n8:¬zu l (l.id,8):=fun hh=>by have:=hh.2;simp at this
 have n9:¬zu l (l.id,9):=fun hh=>by have:=hh.2;simp at this
 have HL:=qm4 h1 h2;have HD:=Qa (LB hH hw);obtain⟨vr,vl,jc,hr,hl⟩:=h.AM;have oc:=h.oc;have c:=jc.cell;generalize H.drop=D at *;obtain⟨H',lo,ok⟩:=D;simp only at HD HL ⊢;have HC:=Qa (fun (w5:Aa)(o5:Own)(hs:Stp (zu l) o o5 w w5)=>show Al w5 cy #[ptr l.h,E3 cy 2,vr,vl] 201/\o5 cy=(l.id,7)/\Row w5 o5 (l.id,8) 3 1 vr rd.length (rd.map nv)/\Row w5 o5 (l.id,9) 3 1 vl ls.length (ls.map nv) from
  ⟨jc.Ao hs (by rw[oc];exact n7),(hs.tags _ jc.lt).trans oc,hr.Ao hs n8,hl.Ao hs n9⟩)
 obtain⟨pl,cl,rfl⟩:=hl.AS;have yL:=Qa HL;clear h hH hw hr hl h1 h2 HL;go_enter func190,ntmps190;go_wp2_with fail;refine HD.out.mono ?_
 rintro e w1 ⟨v,o1,rfl,hH1,hs1,hrow⟩
 obtain⟨pv,cv,rfl⟩:=hrow.AS;obtain⟨j1,oc1,r8,r9⟩:=HC.out _ _ hs1;have HH1:=Qa hH1;have iW:=Qa hs1;have HR8:=Qa r8;have HJ1:=Qa j1;have HO1:=Qa oc1;clear c jc oc hH1 hs1 r8;have c:=j1.cell;have z:=j1.free;have s:=j1.lt;go_wp2_with (first|(at_builtin;refine zi _ rfl _ _ _ rfl 3 iI _ 1 8 hu64 hi bT hsI bZ rfl (by decide) o1 (l.id,9) _ ls.length (ls.map nv) rfl r9 o1 (CY l) _ lo.length (lo.map nv) rfl hrow (tt _) yL.out.1 yL.out.2 ?_;intro v' w3 hown hst;obtain⟨pa,cp,rfl⟩:=hown.AS;have j3:=HJ1.out.Ao hst (by rw[HO1.out];simp);have c3:=j3.cell;have z3:=j3.free;have s3:=j3.lt)|fail)
 have hfin:=Qa (show ∃ o',Bp ((w3.setCell ⟨cy,3,none⟩ (.slice pa (ls.length+lo.length) cp)).setCell ⟨cy,1,none⟩ .nilFunc) o' l H'/\CX ((w3.setCell ⟨cy,3,none⟩ (.slice pa (ls.length+lo.length) cp)).setCell ⟨cy,1,none⟩ .nilFunc) o' l cy 0 rd (ls++lo)/\Stp (EV l) o o' w ((w3.setCell ⟨cy,3,none⟩ (.slice pa (ls.length+lo.length) cp)).setCell ⟨cy,1,none⟩ .nilFunc) from by
  have o3:ext o1 w1.1.size (l.id,9) cy=(l.id,7):=(hst.tags _ HJ1.out.lt).trans HO1.out;have k:Stp (fun t=>t=(l.id,7)) (ext o1 w1.1.size (l.id,9)) (ext o1 w1.1.size (l.id,9)) w3 ((w3.setCell ⟨cy,3,none⟩ (.slice pa (ls.length+lo.length) cp)).setCell ⟨cy,1,none⟩ .nilFunc):=((Stp.refl _ _ w3).setCell (by show ext o1 w1.1.size (l.id,9) cy=_;exact o3) _).setCell (by show ext o1 w1.1.size (l.id,9) cy=_;exact o3) _
  have hs7:∀ j,j<=6->¬(l.id,j)=(l.id,7):=fun j hj=>by simp;omega
  have fP:∀ j,j<=6->¬(l.id,j)=(l.id,9):=fun j hj=>by simp;omega
  have e1:(ls++lo).length=ls.length+lo.length:=Qd;refine⟨_,(HH1.out.Ao hst fP).Ao k hs7,⟨⟨vr,.slice pa (ls.length+lo.length) cp,(j3.set 3 _).set 1 _,(HR8.out.Ao hst (by simp)).Ao k (by simp),?_⟩,o3⟩,
   ((iW.out.mono fun _ h=>nr h).trans (hst.mono (by rintro _ rfl;exact⟨rfl,.inr (.inr rfl)⟩))).trans (k.mono (by rintro _ rfl;exact⟨rfl,.inl (Qk _)⟩))⟩
  rw[e1,Qx];exact hown.Ao k (by simp))
 go_wp2_with fail;go_ret;exact⟨rfl,hfin.out⟩
def qj8 {H:Hp}(hH:Bp w o l H)(hw:H.wf)(h:CX w o l cy 1 rd ls)(h1:rd.length<=1099511627776)(h2:H.A8.2.length<=1099511627776) :
  Ab ARt 126 #[ptr cy] w fun e w'=>e=O (.bool false)/\∃ o',Bp w' o' l H.A8.1/\CX w' o' l cy 2 (rd++H.A8.2) ls/\Stp (EV l) o o' w w':=by
 obtain⟨iI,hi,hsI,bZ,bT⟩:=jh;have hu64:=underlying25;have gD:∀ (fn:Fn)(first cap:Array Ac)(w:Aa),(Instr.makeFunc fn first cap).run ARt w=.ok (.func fn first cap) w:=fun _ _ _ _=>rfl
 have n7:¬zu l (l.id,7):=fun hh=>by have:=hh.2;simp at this
 have n8:¬zu l (l.id,8):=fun hh=>by have:=hh.2;simp at this
 have n9:¬zu l (l.id,9):=fun hh=>by have:=hh.2;simp at this
 have HL:=qm4 h1 h2;have HD:=Qa (qne (hH.Ao (T:=fun _=>False) (Stp.of_below (qf (qd w))) fun _ _ h=>h) hw)
 obtain⟨vr,vl,jc,hr,hl⟩:=h.AM;have oc:=h.oc;have c:=jc.cell;have s:=jc.lt;generalize H.A8=D at *;obtain⟨H',fi⟩:=D;simp only at HD HL ⊢;have HC:=Qa (fun (w5:Aa)(o5:Own)(hs:Stp (zu l) o o5 w.drew w5)=>show Al w5 cy #[ptr l.h,E3 cy 1,vr,vl] 201/\o5 cy=(l.id,7)/\Row w5 o5 (l.id,8) 3 1 vr rd.length (rd.map nv)/\Row w5 o5 (l.id,9) 3 1 vl ls.length (ls.map nv) from
  ⟨(qj jc).Ao hs (by rw[oc];exact n7),(hs.tags _ jc.lt).trans oc,(hr.below (qf (qd w))).Ao hs n8,(hl.below (qf (qd w))).Ao hs n9⟩)
 obtain⟨pl,cl,rfl⟩:=hr.AS;have yL:=Qa HL;have hfin:=Qa (fun (w1:Aa)(o1:Own)(w3:Aa)(pa:Option Addr)(cp:Nat)(hH1:Bp w1 o1 l H')(hs1:Stp (zu l) o o1 w.drew w1)
   (hown:Row w3 (ext o1 w1.1.size (l.id,8)) (l.id,8) 3 1 (.slice pa (rd.length+fi.length) cp) (rd.length+fi.length) (rd.map nv++fi.map nv))(hst:Stp (fun u=>u=(l.id,8)) o1 (ext o1 w1.1.size (l.id,8)) w1 w3) =>
  show ∃ o',Bp ((w3.setCell ⟨cy,2,none⟩ (.slice pa (rd.length+fi.length) cp)).setCell ⟨cy,1,none⟩ (.func (.func 190) #[ptr cy] #[])) o' l H'/\CX ((w3.setCell ⟨cy,2,none⟩ (.slice pa (rd.length+fi.length) cp)).setCell ⟨cy,1,none⟩ (.func (.func 190) #[ptr cy] #[])) o' l cy 2 (rd++fi) ls/\Stp (EV l) o o' w ((w3.setCell ⟨cy,2,none⟩ (.slice pa (rd.length+fi.length) cp)).setCell ⟨cy,1,none⟩ (.func (.func 190) #[ptr cy] #[])) from by
  obtain⟨j1,oc1,r8,r9⟩:=HC.out _ _ hs1;have o3:ext o1 w1.1.size (l.id,8) cy=(l.id,7):=(hst.tags _ j1.lt).trans oc1;have j3:=j1.Ao hst (by rw[oc1];simp)
  have k:Stp (fun t=>t=(l.id,7)) (ext o1 w1.1.size (l.id,8)) (ext o1 w1.1.size (l.id,8)) w3 ((w3.setCell ⟨cy,2,none⟩ (.slice pa (rd.length+fi.length) cp)).setCell ⟨cy,1,none⟩ (.func (.func 190) #[ptr cy] #[])):=((Stp.refl _ _ w3).setCell (by show ext o1 w1.1.size (l.id,8) cy=_;exact o3) _).setCell (by show ext o1 w1.1.size (l.id,8) cy=_;exact o3) _
  have hs7:∀ j,j<=6->¬(l.id,j)=(l.id,7):=fun j hj=>by simp;omega
  have hs8:∀ j,j<=6->¬(l.id,j)=(l.id,8):=fun j hj=>by simp;omega
  have e1:(rd++fi).length=rd.length+fi.length:=Qd;refine⟨_,(hH1.Ao hst hs8).Ao k hs7,⟨⟨.slice pa (rd.length+fi.length) cp,vl,(j3.set 2 _).set 1 _,?_,(r9.Ao hst (by simp)).Ao k (by simp)⟩,o3⟩,
   (((Stp.of_below (qf (qd w))).trans (hs1.mono fun _ h=>nr h)).trans (hst.mono (by rintro _ rfl;exact⟨rfl,.inr (.inl rfl)⟩))).trans (k.mono (by rintro _ rfl;exact⟨rfl,.inl (Qk _)⟩))⟩
  rw[e1,Qx];exact hown.Ao k (by simp))
 clear h hH hw hr hl h1 h2 HL oc;go_enter func126,ntmps126;go_upto_region 1 with fail;go_region_law (first
  | (refine me _ (by rfl) _ _ _ (by rfl) 3 iI _ 1 8 hu64 hi bT hsI bZ (by rfl) (by decide) o1 (l.id,8) _ rd.length (rd.map nv) (by rfl) r8 o1 (CY l) _ fi.length (fi.map nv) (by rfl) hrow (tt _) yL.out.1 yL.out.2 ?_;intro v' w3 hown hst;obtain⟨pa,cp,rfl⟩:=hown.AS;have j3:=j1.Ao hst (by rw[oc1];simp);have c3:=j3.cell;have z3:=j3.free;have s3:=j3.lt)
  | (go_simp;go_wp2_with ((go_at_call 189;refine HD.out.mono ?_;rintro e w1 ⟨v,o1,rfl,hH1,hs1,hrow⟩;obtain⟨pv,cv,rfl⟩:=hrow.AS;obtain⟨j1,oc1,r8,r9⟩:=HC.out _ _ hs1;have c1:=j1.cell;have s1:=j1.lt))))
 all_goals
  have HF:=Qa (hfin.out _ _ _ _ _ hH1 hs1 hown hst);go_wp2_with fail;go_ret;exact⟨rfl,HF.out⟩
end
section
variable {w w' : Aa} {o o' : Own} {l : A7} {cy n : Nat} {rd ls : List Nat}
def LC {H:Hp}(h:Bp w o l H)(hk:H.ok)(hm:H.AD=false) :
  Ab ARt 125 #[ptr l.h] w fun e w'=>e=O (.bool true)/\Bp w' o l H.flip/\Stp (zu l) o o w w':=by
 obtain⟨vc,vo,vw,vf,f,hh⟩:=h;refine (Hm hh hk hm).mono ?_
 rintro e w'⟨rfl,h',hs⟩
 exact⟨rfl,⟨_,_,_,_,_,h'⟩,hs⟩
def qjs {vp vl vr:Ac}(jc:Al w cy #[ptr l.h,vp,vr,vl] 201)(a:Option Addr)(c0:Nat) :
  Ab ARt 127 #[ptr cy,.slice a 0 c0] w fun e w'=>e=O (Ah none 0 0)/\w=w':=by
 have c:=jc.cell;clear jc;go_enter func127,ntmps127;go_wp2_with fail;go_loopw [5,7,10](fun vv _ ix wr=>vv=Ah none 0 0/\ix=I Z 0/\wr=w)(fun _ _ _ _=>0)
 case atStart=>exact⟨rfl,rfl,rfl⟩
 case round =>
  obtain⟨rfl,rfl,rfl⟩:=hrel;go_wp2_with fail;go_ret;exact⟨rfl,rfl⟩
end
section
variable {w w' : Aa} {o o' : Own} {l : A7} {cy n : Nat} {rd ls : List Nat}
def qok {vr vl:Ac}(hb:Al w cy #[ptr l.h,E3 cy n,vr,vl] 201)(oc:o cy=(l.id,7))(h1:Row w o (l.id,8) 3 1 vr rd.length (rd.map nv)) :
  Ab ARt 68 #[ptr cy] w fun e w'=>e=O vr/\Row w' o (l.id,8) 3 1 vr rd.length (rd.map nv)/\Al w' cy #[ptr l.h,E3 cy n,Ah none 0 0,vl] 201/\Stp (fun t=>t=(l.id,7)) o o w w':=by
 have hfin:=Qa (show Row (w.setCell ⟨cy,2,none⟩ (Ah none 0 0)) o (l.id,8) 3 1 vr rd.length (rd.map nv)/\Al (w.setCell ⟨cy,2,none⟩ (Ah none 0 0)) cy #[ptr l.h,E3 cy n,Ah none 0 0,vl] 201/\Stp (fun t=>t=(l.id,7)) o o w (w.setCell ⟨cy,2,none⟩ (Ah none 0 0)) from by
  have k:Stp (fun t=>t=(l.id,7)) o o w (w.setCell ⟨cy,2,none⟩ (Ah none 0 0)):=(Stp.refl _ o w).setCell (by show o cy=_;exact oc) _
  exact⟨h1.Ao k (by simp),hb.set 2 _,k⟩)
 obtain⟨pa,cp,rfl⟩:=h1.AS;have c:=hb.cell;have z:=hb.free;have s:=hb.lt;clear h1;go_enter func68,ntmps68;go_wp2_with fail;go_ret;exact⟨rfl,hfin.out⟩
def GG {vr vl:Ac}(hb:Al w cy #[ptr l.h,E3 cy n,vr,vl] 201)(oc:o cy=(l.id,7))(h2:Row w o (l.id,9) 3 1 vl ls.length (ls.map nv)) :
  Ab ARt 71 #[ptr cy] w fun e w'=>e=O vl/\Row w' o (l.id,9) 3 1 vl ls.length (ls.map nv)/\Al w' cy #[ptr l.h,E3 cy n,vr,Ah none 0 0] 201/\Stp (fun t=>t=(l.id,7)) o o w w':=by
 have hfin:=Qa (show Row (w.setCell ⟨cy,3,none⟩ (Ah none 0 0)) o (l.id,9) 3 1 vl ls.length (ls.map nv)/\Al (w.setCell ⟨cy,3,none⟩ (Ah none 0 0)) cy #[ptr l.h,E3 cy n,vr,Ah none 0 0] 201/\Stp (fun t=>t=(l.id,7)) o o w (w.setCell ⟨cy,3,none⟩ (Ah none 0 0)) from by
  have k:Stp (fun t=>t=(l.id,7)) o o w (w.setCell ⟨cy,3,none⟩ (Ah none 0 0)):=(Stp.refl _ o w).setCell (by show o cy=_;exact oc) _
  exact⟨h2.Ao k (by simp),hb.set 3 _,k⟩)
 obtain⟨pa,cp,rfl⟩:=h2.AS;have c:=hb.cell;have z:=hb.free;have s:=hb.lt;clear h2;go_enter func71,ntmps71;go_wp2_with fail;go_ret;exact⟨rfl,hfin.out⟩
def qor {H:Hp}(hH:Bp w o l H)(hw:H.wf)(hm:H.AD=false)(jc:Al w cy #[ptr l.h,.nilFunc,Ah none 0 0,Ah none 0 0] 201)(oc:o cy=(l.id,7)){v:Ac}{ps:List Nat}{ta:Tag}(hv:Row w o ta 3 1 v ps.length (ps.map nv))(hp:ps.length<=8796093022208)
  (tg:Tag)(na:¬EV l ta)(ng:¬EV l tg)(nag:ta≠tg) :
  Ab ARt 62 #[ptr cy,v] w fun e w'=>∃ v' o',e=O (Aj #[v',.bool true])/\Bp w' o' l (H.flip.Ax ps).1/\Al w' cy #[ptr l.h,.func (.func 126) #[ptr cy] #[],Ah none 0 0,Ah none 0 0] 201/\Row w' o' tg 3 1 v' ps.length ((H.flip.Ax ps).2.map nv)/\Stp (fun t=>EV l t\/t=tg) o o' w w':=by
 have gD:∀ (fn:Fn)(first cap:Array Ac)(w:Aa),(Instr.makeFunc fn first cap).run ARt w=.ok (.func fn first cap) w:=fun _ _ _ _=>rfl
 have n7:¬zu l (l.id,7):=fun hh=>by have:=hh.2;simp at this
 have n8:¬zu l (l.id,8):=fun hh=>by have:=hh.2;simp at this
 have n9:¬zu l (l.id,9):=fun hh=>by have:=hh.2;simp at this
 have c7:EV l (l.id,7):=⟨rfl,.inl (Qk _)⟩;have c9:EV l (l.id,9):=⟨rfl,.inr (.inr rfl)⟩;have hwf:H.flip.wf:=Hp.Fa hw hm;have c:=jc.cell;have hne:=run_neq_nil_nil w 23 underlying23;have HFl:=Qa (LC hH hw.ok hm)
 have yM:=Qa (fun w2 (h2:Bp w2 o l H.flip)(j2:Al w2 cy #[ptr l.h,.func (.func 126) #[ptr cy] #[],Ah none 0 0,Ah none 0 0] 201)(v2:Row w2 o ta 3 1 v ps.length (ps.map nv)) =>
  qkm h2 hwf j2 oc v2 hp tg (fun h=>na (nr h)) (fun h=>ng (nr h)) nag (fun e=>ng (by rw[e];exact c7)))
 have H1:=Qa (fun w1 (hs1:Stp (zu l) o o w w1)(hH1:Bp w1 o l H.flip)=>show Al w1 cy #[ptr l.h,.nilFunc,Ah none 0 0,Ah none 0 0] 201/\Bp (w1.setCell ⟨cy,1,none⟩ (.func (.func 126) #[ptr cy] #[])) o l H.flip /\
   Al (w1.setCell ⟨cy,1,none⟩ (.func (.func 126) #[ptr cy] #[])) cy #[ptr l.h,.func (.func 126) #[ptr cy] #[],Ah none 0 0,Ah none 0 0] 201 /\
   Row (w1.setCell ⟨cy,1,none⟩ (.func (.func 126) #[ptr cy] #[])) o ta 3 1 v ps.length (ps.map nv) /\
   Stp (EV l) o o w (w1.setCell ⟨cy,1,none⟩ (.func (.func 126) #[ptr cy] #[])) from by
  have k:Stp (fun t=>t=(l.id,7)) o o w1 (w1.setCell ⟨cy,1,none⟩ (.func (.func 126) #[ptr cy] #[])):=(Stp.refl _ o w1).setCell (by show o cy=_;exact oc) _
  have j1:=jc.Ao hs1 (by rw[oc];exact n7)
  exact⟨j1,hH1.Ao k fun j hj=>by simp;omega,j1.set 1 _,(hv.Ao hs1 fun h=>na (nr h)).Ao k (fun e=>na (by rw[e];exact c7)),(hs1.mono fun _ h=>nr h).trans (k.mono (by rintro _ rfl;exact c7))⟩)
 have OC:=Qa oc;have NG:=Qa (show ¬hOr l tg (l.id,7) from fun h=>h.elim n7 fun e=>ng (by rw[<-e];exact c7))
 have NT:=Qa (show tg≠(l.id,7) from fun e=>ng (by rw[e];exact c7))
 have C7:=Qa c7;obtain⟨pv,cv,rfl⟩:=hv.AS;generalize ps.length=np at *;generalize H.flip.Ax ps=MV at *;obtain⟨H2,qs⟩:=MV;simp only at yM ⊢;clear hH hw hm hv hp na ng nag hwf oc jc n7 n8 n9 c7 c9;go_enter func62,ntmps62;go_wp2_with fail;refine HFl.out.mono ?_
 rintro e w1 ⟨rfl,hH1,hs1⟩
 obtain⟨j1,hH2,j2,hv2,hs2⟩:=H1.out _ hs1 hH1;have c1:=j1.cell;have z1:=j1.free;have s1:=j1.lt;clear c hne;go_upto_region 5 with fail;obtain⟨W2,hW2⟩:=Ja0 (w1.setCell ⟨cy,1,none⟩ (.func (.func 126) #[ptr cy] #[]));rw[<-hW2]at hH2 j2 hv2 hs2 ⊢;have eH:=Qa (yM.out _ hH2 j2 hv2);clear hW2 j1 c1 z1 s1 hs1 hH1 hH2 hv2 yM H1;go_wp2_with fail;refine eH.out.mono ?_
 rintro e w3 ⟨v3,o3,rfl,hH3,hr3,hs3⟩
 obtain⟨p3,c3,rfl⟩:=hr3.AS;have j3:=j2.Ao hs3 (by rw[OC.out];exact NG.out)
 have oc3:o3 cy=(l.id,7):=(hs3.tags _ j2.lt).trans OC.out;have HN:=Qa (qjs j3 none 0)
 have hfin:=Qa (show Bp (w3.setCell ⟨cy,2,none⟩ (Ah none 0 0)) o3 l H2/\Al (w3.setCell ⟨cy,2,none⟩ (Ah none 0 0)) cy #[ptr l.h,.func (.func 126) #[ptr cy] #[],Ah none 0 0,Ah none 0 0] 201/\Row (w3.setCell ⟨cy,2,none⟩ (Ah none 0 0)) o3 tg 3 1 (.slice p3 np c3) np (qs.map nv)/\Stp (fun t=>EV l t\/t=tg) o o3 w (w3.setCell ⟨cy,2,none⟩ (Ah none 0 0)) from by
  have k:Stp (fun t=>t=(l.id,7)) o3 o3 w3 (w3.setCell ⟨cy,2,none⟩ (Ah none 0 0)):=(Stp.refl _ o3 w3).setCell (by show o3 cy=_;exact oc3) _
  exact⟨hH3.Ao k fun j hj=>by simp;omega,j3.set 2 _,hr3.Ao k NT.out,
   ((hs2.mono fun _ h=>Or.inl h).trans (hs3.mono fun _ h=>h.elim (fun h=>Or.inl (nr h)) Or.inr)).trans (k.mono (by rintro _ rfl;exact Or.inl C7.out))⟩)
 have c:=j3.cell;have z:=j3.free;have s:=j3.lt;clear hH3 hr3 hs3 hs2 j2;go_wp2_with fail;refine HN.out.mono ?_
 rintro e w4 ⟨rfl,rfl⟩
 go_wp2_with fail;go_ret2;exact⟨_,o3,rfl,hfin.out⟩
