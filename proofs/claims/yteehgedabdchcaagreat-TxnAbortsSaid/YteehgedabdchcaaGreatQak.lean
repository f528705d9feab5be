import Derived.Test.YteehgedabdchcaaGreatQaj
import Derived.Test.YteehgedabdchcaaGreatQay
set_option linter.all false
set_option maxRecDepth 1000000
set_option maxHeartbeats 16000000
namespace Go.Proofs.YteehgedabdchcaaGreat
open Go.RowKit Go.Lib Go.Shelf Hp
def cloneHold_ren:Go.Shelf.Ren:=⟨fun|41=>139|n=>n,fun|22=>126|23=>131|4=>4|n=>n,fun|n=>n⟩
theorem cloneHold_lay:Go.Proofs.SlLaysE0.n41 Tryz.prog cloneHold_ren:={
 mixed:=by kernel_rfl
 f41:=⟨Tryz.f139.name,by decide,Tryz.func139.trans (congrArg some (by kernel_rfl))⟩
 t4:=Tryz.underlying4
 a4:=Tryz.isAgg4
 z4:=Tryz.sizeOf4
 v4:=Tryz.zeroValue4
 t22:=Tryz.underlying126
 a22:=Tryz.isAgg126
 z22:=Tryz.sizeOf126
 v22:=Tryz.zeroValue126 }
def cloneUndo_ren:Go.Shelf.Ren:=⟨fun|41=>200|n=>n,fun|22=>212|23=>175|4=>4|n=>n,fun|n=>n⟩
theorem cloneUndo_lay:Go.Proofs.SlLaysE0.n41 Tryz.prog cloneUndo_ren:={
 mixed:=by kernel_rfl
 f41:=⟨Tryz.f200.name,by decide,Tryz.func200.trans (congrArg some (by kernel_rfl))⟩
 t4:=Tryz.underlying4
 a4:=Tryz.isAgg4
 z4:=Tryz.sizeOf4
 v4:=Tryz.zeroValue4
 t22:=Tryz.underlying212
 a22:=Tryz.isAgg212
 z22:=Tryz.sizeOf212
 v22:=Tryz.zeroValue212 }
theorem info_parts {t:TypeId}{z:Value}{s b:Nat}(h:((Tryz.prog.info? t).map fun i=>(i.zero,i.size,i.bytes))=some (some z,s,b)):∃ i,Tryz.prog.info? t=some i∧i.size=s∧i.bytes=b∧i.zero=some z:=by
 obtain⟨i,hi,he⟩:=Option.map_eq_some_iff.1 h;injection he with e1 e2;injection e2 with e2 e3;exact⟨i,hi,e2,e3,e1⟩
theorem info_hold:∃ i,Tryz.prog.info? 131=some i∧i.size=2∧i.bytes=16∧i.zero=some (.agg #[.int .i64 0,.int .i64 0]):=info_parts (by kernel_rfl)
theorem info_undo:∃ i,Tryz.prog.info? 175=some i∧i.size=4∧i.bytes=32∧i.zero=some (.agg #[.int .i64 0,.int .i64 0,.int .i64 0,.int .i64 0]):=info_parts (by kernel_rfl)
theorem row_of_owns {w w':World}{o:Own}{t:Tag}{e:TypeId}{size n:Nat}{v:Value}{xs:List Value}(h:w'.ownsRow w.heap.size e size v n xs):Row w' (ext o w.heap.size t) t e size v n xs:=by
 refine⟨⟨h.1,?_⟩,fun k hk=>?_⟩
 ·rcases h.2 with hv|⟨g,cap,cur,hv,hb,hg⟩
  ·exact .inl hv
  ·exact .inr ⟨g,cap,cur,hv,Nat.zero_le _,hg⟩
 ·rcases h.2 with ⟨rfl,_⟩|⟨g,cap,cur,rfl,hb,hg⟩
  ·simp[Value.ownBlock]at hk
  ·have:g=k:=by simpa [Value.ownBlock] using hk
   subst this;exact ext_ge hb
section
variable {w : World} {o : Own} {t : Tag} {v : Value} {n : Nat} {xs : List Value}
theorem clone_hold (h:Row w o t 131 2 v n xs)(hn:n≤100000)(h1:∀ u ∈ xs,u.oneCell'=true)(tg:Tag) :
  Calls Tryz.prog 139 #[v] w fun e w'=>∃ v',e=.returned v'∧Row w' (ext o w.heap.size tg) tg 131 2 v' n xs∧Below w.heap.size w w':=by
 obtain⟨i,hi,hs,hb,hz⟩:=info_hold;rcases h.own.2 with⟨rfl,rfl⟩|⟨g,cap,cur,rfl,_⟩
 ·have hx:xs=[]:=List.eq_nil_of_length_eq_zero (by simpa using h.len)
  subst hx;refine (AnyE.slices_Clone_nil cloneHold_lay 0 0 w).mono ?_
  rintro e w'⟨rfl,rfl⟩
  exact⟨_,rfl,Row.nil _ _ _ _ _,bsame _⟩
 ·refine (AnyE.slices_Clone cloneHold_lay i _ 2 16 hi hz hs hb rfl (by decide) Tryz.sizeOf131 g 0 n cap xs w h.len (by simp only[maxLen];omega) (by omega) (fun j u hu=>?_) h1).mono ?_
  ·have:=h.own.cells (g:=g) rfl j u hu
   rw[Nat.zero_add];rwa [show (⟨g,0,none⟩:Addr).add j=⟨g,j,none⟩ from by unfold Addr.add;split<;>simp_all]at this
  ·rintro e w'⟨v',rfl,ho,_,hb⟩
   exact⟨v',rfl,row_of_owns ho,hb⟩
theorem clone_undo (h:Row w o t 175 4 v n xs)(hn:n≤100000)(h1:∀ u ∈ xs,u.oneCell'=true)(tg:Tag) :
  Calls Tryz.prog 200 #[v] w fun e w'=>∃ v',e=.returned v'∧Row w' (ext o w.heap.size tg) tg 175 4 v' n xs∧Below w.heap.size w w':=by
 obtain⟨i,hi,hs,hb,hz⟩:=info_undo;rcases h.own.2 with⟨rfl,rfl⟩|⟨g,cap,cur,rfl,_⟩
 ·have hx:xs=[]:=List.eq_nil_of_length_eq_zero (by simpa using h.len)
  subst hx;refine (AnyE.slices_Clone_nil cloneUndo_lay 0 0 w).mono ?_
  rintro e w'⟨rfl,rfl⟩
  exact⟨_,rfl,Row.nil _ _ _ _ _,bsame _⟩
 ·refine (AnyE.slices_Clone cloneUndo_lay i _ 4 32 hi hz hs hb rfl (by decide) Tryz.sizeOf175 g 0 n cap xs w h.len (by simp only[maxLen];omega) (by omega) (fun j u hu=>?_) h1).mono ?_
  ·have:=h.own.cells (g:=g) rfl j u hu
   rw[Nat.zero_add];rwa [show (⟨g,0,none⟩:Addr).add j=⟨g,j,none⟩ from by unfold Addr.add;split<;>simp_all]at this
  ·rintro e w'⟨v',rfl,ho,_,hb⟩
   exact⟨v',rfl,row_of_owns ho,hb⟩
theorem clone_int (h:Row w o t 3 1 v n xs)(hn:n≤100000)(h1:∀ u ∈ xs,u.oneCell'=true)(tg:Tag) :
  Calls Tryz.prog 63 #[v] w fun e w'=>∃ v',e=.returned v'∧Row w' (ext o w.heap.size tg) tg 3 1 v' n xs∧Below w.heap.size w w':=by
 obtain⟨i,hi,hs,hb,hz⟩:=info_int;rcases h.own.2 with⟨rfl,rfl⟩|⟨g,cap,cur,rfl,_⟩
 ·have hx:xs=[]:=List.eq_nil_of_length_eq_zero (by simpa using h.len)
  subst hx;refine (Tryz.slices_Clone_nil 0 0 w).mono ?_
  rintro e w'⟨rfl,rfl⟩
  exact⟨_,rfl,Row.nil _ _ _ _ _,bsame _⟩
 ·refine (Tryz.slices_Clone i _ 1 8 hi hz hs hb rfl (by decide) Tryz.sizeOf3 g 0 n cap xs w h.len (by simp only[maxLen];omega) (by omega) (fun j u hu=>?_) h1).mono ?_
  ·have:=h.own.cells (g:=g) rfl j u hu
   rw[Nat.zero_add];rwa [show (⟨g,0,none⟩:Addr).add j=⟨g,j,none⟩ from by unfold Addr.add;split<;>simp_all]at this
  ·rintro e w'⟨v',rfl,ho,_,hb⟩
   exact⟨v',rfl,row_of_owns ho,hb⟩
theorem contains_any (ps:List Nat)(h:Row w o t 3 1 v ps.length (ps.map nv))(hl:ps.length≤100000)(x:Nat)(z:Int)(hz:z=x) :
  Calls Tryz.prog 270 #[v,.int .i64 z] w fun e w'=>e=.returned (.bool (decide (x ∈ ps)))∧w=w':=by
 subst hz;rcases h.form with⟨rfl,h0⟩|⟨g,cap,rfl,hn,hc,_,_⟩
 ·have:ps=[]:=List.eq_nil_of_length_eq_zero h0
  subst this;refine (Tryz.slices_Contains_int_empty none 0 x w).mono ?_
  rintro e w'⟨rfl,rfl⟩
  exact⟨by simp,rfl⟩
 ·refine (Tryz.slices_Contains_int g 0 ps.length cap (ps.map fun (p:Nat)=>(p:Int)) x w (by simp) (by omega) ?_).mono ?_
  ·intro j hj
   have hj':j<ps.length:=by simpa using hj
   rw[Nat.zero_add];refine h.cells j _ ?_;rw[List.getElem?_map,List.getElem?_eq_getElem hj'];simp[nv,List.getD,List.getElem?_eq_getElem hj']
  ·rintro e w'⟨rfl,rfl⟩
   rw[List.take_of_length_le (by simp)]
   refine⟨?_,rfl⟩;have e:((ps.map fun (p:Nat)=>(p:Int)).contains (x:Int))=decide (x ∈ ps):=by
    rw[Bool.eq_iff_iff];simp only[List.contains_eq_mem,List.mem_map,decide_eq_true_eq];exact⟨fun⟨a,ha,e⟩=>by rw[show x=a by omega];exact ha,fun h=>⟨x,h,rfl⟩⟩
   rw[e]
end
end Go.Proofs.YteehgedabdchcaaGreat
namespace Go.Proofs.YteehgedabdchcaaGreat
open Go.RowKit Hp
attribute [local go_sem ↓] Go.wp_at_zero Go.wp_at_succ
structure Un where
 kind:Nat
 pos:Nat
 i:Nat
 old:Int
structure Lg where
 mr:Nat
 mu:Nat
 reads:List Nat
 keeps:List Nat
 holds:List (Nat×Nat)
 undos:List Un
structure Lg.ok (L:Lg):Prop where
 mr:L.mr≤200
 mu:L.mu≤200
 r:L.reads.length≤L.mr
 k:L.keeps.length≤L.mr
 h:L.holds.length≤L.mu
 u:L.undos.length≤L.mu
def hcells:List (Nat×Nat)→List Value
 | []=>[]
 | x::l=>nv x.1::nv x.2::hcells l
def ucells:List Un→List Value
 | []=>[]
 | x::l=>nv x.kind::nv x.pos::nv x.i::.int .i64 x.old::ucells l
theorem hcells_snoc (l:List (Nat×Nat))(x:Nat×Nat):hcells (l++[x])=hcells l++[nv x.1,nv x.2]:=by
 induction l with
 | nil=>rfl
 | cons y l ih=>simp[hcells,ih]
theorem ucells_snoc (l:List Un)(x:Un):ucells (l++[x])=ucells l++[nv x.kind,nv x.pos,nv x.i,.int .i64 x.old]:=by
 induction l with
 | nil=>rfl
 | cons y l ih=>simp[ucells,ih]
theorem hcells_one (l:List (Nat×Nat)):∀ u ∈ hcells l,u.oneCell'=true:=by
 induction l with
 | nil=>intro u hu;simp[hcells]at hu
 | cons y l ih =>
  intro u hu;simp only[hcells,List.mem_cons]at hu;rcases hu with rfl|rfl|hu
  ·rfl
  ·rfl
  ·exact ih u hu
theorem ucells_one (l:List Un):∀ u ∈ ucells l,u.oneCell'=true:=by
 induction l with
 | nil=>intro u hu;simp[ucells]at hu
 | cons y l ih =>
  intro u hu;simp only[ucells,List.mem_cons]at hu;rcases hu with rfl|rfl|rfl|rfl|hu
  ·rfl
  ·rfl
  ·rfl
  ·rfl
  ·exact ih u hu
theorem map_one (l:List Nat):∀ u ∈ l.map nv,u.oneCell'=true:=by
 intro u hu;obtain⟨x,_,rfl⟩:=List.mem_map.1 hu;rfl
theorem hcells_at (l:List (Nat×Nat))(i:Nat)(x:Nat×Nat)(h:l[i]?=some x):(hcells l)[2*i]?=some (nv x.1)∧(hcells l)[2*i+1]?=some (nv x.2):=by
 induction l generalizing i with
 | nil=>simp at h
 | cons y l ih =>
  cases i with
  | zero=>simp at h;subst h;simp[hcells]
  | succ i =>
   simp at h;have:=ih i h;rw[show 2*(i+1)=2*i+2 from by omega]
   simpa [hcells] using this
theorem ucells_at (l:List Un)(i:Nat)(x:Un)(h:l[i]?=some x):(ucells l)[4*i]?=some (nv x.kind)∧(ucells l)[4*i+1]?=some (nv x.pos)∧(ucells l)[4*i+2]?=some (nv x.i)∧(ucells l)[4*i+3]?=some (.int .i64 x.old):=by
 induction l generalizing i with
 | nil=>simp at h
 | cons y l ih =>
  cases i with
  | zero=>simp at h;subst h;simp[ucells]
  | succ i =>
   simp at h;have:=ih i h;rw[show 4*(i+1)=4*i+4 from by omega]
   simpa [ucells] using this
structure LgIn (w:World)(o:Own)(id k b:Nat)(L:Lg)(vr vk vh vu:Value):Prop where
 blk:Blk w b #[.int .i64 L.mr,.int .i64 L.mu,vr,vk,vh,vu] 219
 rr:Row w o (id,k+1) 3 1 vr L.reads.length (L.reads.map nv)
 rk:Row w o (id,k+2) 3 1 vk L.keeps.length (L.keeps.map nv)
 rh:Row w o (id,k+3) 131 2 vh L.holds.length (hcells L.holds)
 ru:Row w o (id,k+4) 175 4 vu L.undos.length (ucells L.undos)
 ob:o b=(id,k)
theorem LgIn.below {w w':World}{o:Own}{id k b:Nat}{L:Lg}{vr vk vh vu:Value}(h:LgIn w o id k b L vr vk vh vu)(hb:Below w.heap.size w w'):LgIn w' o id k b L vr vk vh vu:=
 ⟨h.blk.below hb h.blk.lt,h.rr.below hb,h.rk.below hb,h.rh.below hb,h.ru.below hb,h.ob⟩
theorem LgIn.stp {T:Tag→Prop}{w w':World}{o o':Own}{id k b:Nat}{L:Lg}{vr vk vh vu:Value}(h:LgIn w o id k b L vr vk vh vu)(hs:Stp T o o' w w')(hn:∀ j,j≤4→¬T (id,k+j)):LgIn w' o' id k b L vr vk vh vu:=
 ⟨h.blk.stp hs (by rw[h.ob];exact hn 0 (by omega)),h.rr.stp hs (hn 1 (by omega)),h.rk.stp hs (hn 2 (by omega)),h.rh.stp hs (hn 3 (by omega)),h.ru.stp hs (hn 4 (by omega)),(hs.tags _ h.blk.lt).trans h.ob⟩
section
variable {w : World} {o : Own} {t0 tg : Tag} {b k : Nat} {cs : Array Value} {v : Value} {ps : List Nat}
theorem note_in (hb:Blk w b cs 219)(hv:cs[k]?=some v)(hr:Row w o tg 3 1 v ps.length (ps.map nv))(hl:ps.length≤4096)(p m:Nat)(hp:p ∈ ps) :
  Calls Tryz.prog 238 #[.pointer (some ⟨b,k,none⟩),.int .i64 p,.int .i64 m] w fun e w'=>e=.returned (.bool true)∧w=w':=by
 have HC:=Lib.hid (contains_any ps hr (by omega) p p rfl)
 rw[decide_eq_true hp]at HC;have c:w.cell? ⟨b,k,none⟩=some v:=by rw[hb.cell];exact hv
 clear hb hv hr hp hl;go_enter Tryz.func238,Tryz.ntmps238;go_wp2_with fail;refine HC.out.mono ?_
 rintro e w1 ⟨rfl,rfl⟩
 go_wp2_with fail;go_ret;exact⟨rfl,rfl⟩
theorem note_full (hb:Blk w b cs 219)(hv:cs[k]?=some v)(hr:Row w o tg 3 1 v ps.length (ps.map nv))(hl:ps.length≤4096)(p m:Nat)(hp:p ∉ ps)(hm:m≤ps.length) :
  Calls Tryz.prog 238 #[.pointer (some ⟨b,k,none⟩),.int .i64 p,.int .i64 m] w fun e w'=>e=.returned (.bool false)∧w=w':=by
 have HC:=Lib.hid (contains_any ps hr (by omega) p p rfl)
 rw[decide_eq_false hp]at HC;have c:w.cell? ⟨b,k,none⟩=some v:=by rw[hb.cell];exact hv
 obtain⟨pa,cp,rfl⟩:=hr.slc;have hng:(m:Int)≤(ps.length:Int):=by omega
 clear hb hv hr hp hl;go_enter Tryz.func238,Tryz.ntmps238;go_wp2_with fail;refine HC.out.mono ?_
 rintro e w1 ⟨rfl,rfl⟩
 go_wp2_with fail;go_ret;exact⟨rfl,rfl⟩
theorem note_new (hb:Blk w b cs 219) (hv:cs[k]?=some v) (hr:Row w o tg 3 1 v ps.length (ps.map nv)) (hl:ps.length≤4096) (p m:Nat) (hp:p ∉ ps) (hm:ps.length<m) (ht:o b=t0) (hne:t0≠tg) :
  Calls Tryz.prog 238 #[.pointer (some ⟨b,k,none⟩),.int .i64 p,.int .i64 m] w fun e w'=>e=.returned (.bool true) ∧
   ∃ v' o',Blk w' b (cs.setIfInBounds k v') 219∧Row w' o' tg 3 1 v' (ps++[p]).length ((ps++[p]).map nv)∧Stp (fun t=>t=t0∨t=tg) o o' w w':=by
 have HC:=Lib.hid (contains_any ps hr (by omega) p p rfl)
 rw[decide_eq_false hp]at HC;have c:w.cell? ⟨b,k,none⟩=some v:=by rw[hb.cell];exact hv
 have s:=hb.lt;have z:=hb.free k;have hng:(ps.length:Int)<(m:Int):=by omega
 obtain⟨iI,hi,hsI,hyI,hzI⟩:=info_int;have hu64:=Tryz.underlying25;have hw:=Lib.hid (len_ok hl);obtain⟨pa0,cp0,rfl⟩:=hr.slc;clear hm hl;go_enter Tryz.func238,Tryz.ntmps238;go_wp2_with fail;refine HC.out.mono ?_
 rintro e w1 ⟨rfl,rfl⟩
 go_wp2_with (first|(at_builtin;refine wpList_append_row _ rfl _ _ _ rfl 3 iI _ 1 8 hu64 hi hzI hsI hyI rfl (by decide) o tg _ _ _ rfl (Row.below hr (balloc (bsame w) _)) ⟨w.heap.size,0,none⟩ 1 1 [.int .i64 p] rfl rfl (news_one (Blk.new w _ _)) one_i64 hw.out.1 hw.out.2 ?_;intro v' w8 hown hst;obtain⟨pa,cp,rfl⟩:=hown.slc;have j8:=(hb.alloc (.cells #[.int .i64 p] 3)).stp hst (by rw[ht];exact hne);have c8:w8.cell? ⟨b,k,none⟩=some (.slice pa0 ps.length cp0):=(by rw[j8.cell];exact hv);have z8:=j8.free k;have s8:=j8.lt)|fail)
 go_ret;have k8:=Stp.setCell (T:=fun t=>t=t0) (Stp.refl _ (ext o (w.alloc (.cells #[.int .i64 p] 3)).heap.size tg) w8) (a:=⟨b,k,none⟩) (by show ext o _ _ b=_;rw[ext_lt (hb.alloc (.cells #[.int .i64 p] 3)).lt];exact ht) (.slice pa (ps.length+1) cp)
 refine⟨rfl,_,_,j8.set k _,?_,(((Stp.of_below (T:=fun t=>t=tg) (balloc (bsame w) (.cells #[.int .i64 p] 3))).trans hst).mono fun _ e=>Or.inr e).trans (k8.mono fun _ e=>Or.inl e)⟩
 simpa [nv] using hown.stp k8 (fun e=>hne e.symm)
end
def noteL (l:List Nat)(p m:Nat):List Nat:=if p ∈ l then l else if l.length<m then l++[p] else l
def noteB (l:List Nat)(p m:Nat):Bool:=decide (p ∈ l∨l.length<m)
section
variable {w : World} {o : Own} {id k b : Nat} {L : Lg} {vr vk vh vu : Value}
theorem notel_any (cs:Array Value)(j:Nat)(v:Value)(ps:List Nat)(t0 tg:Tag)(hb:Blk w b cs 219)(hv:cs[j]?=some v)(hr:Row w o tg 3 1 v ps.length (ps.map nv))(hl:ps.length≤4096)(p m:Nat)(ht:o b=t0)(hne:t0≠tg) :
  Calls Tryz.prog 238 #[.pointer (some ⟨b,j,none⟩),.int .i64 p,.int .i64 m] w fun e w'=>e=.returned (.bool (noteB ps p m)) ∧
   ∃ v' o',Blk w' b (cs.setIfInBounds j v') 219∧Row w' o' tg 3 1 v' (noteL ps p m).length ((noteL ps p m).map nv)∧Stp (fun t=>t=t0∨t=tg) o o' w w':=by
 have hcs:(cs.setIfInBounds j v)=cs:=by
  apply Array.ext_getElem?;intro i;rw[Array.getElem?_setIfInBounds];split
  ·rename_i e;subst e
   split
   ·exact hv.symm
   ·rename_i e2;rw[Array.getElem?_eq_none (by omega)]
  ·rfl
 unfold noteB noteL;by_cases hp:p ∈ ps
 ·rw[if_pos hp,decide_eq_true (Or.inl hp)]
  refine (note_in hb hv hr hl p m hp).mono ?_
  rintro e w' ⟨rfl,rfl⟩
  exact⟨rfl,v,o,by rw[hcs];exact hb,hr,Stp.refl _ _ _⟩
 ·rw[if_neg hp]
  by_cases hm:ps.length<m
  ·rw[if_pos hm,decide_eq_true (Or.inr hm)]
   exact note_new hb hv hr hl p m hp hm ht hne
  ·rw[if_neg hm,decide_eq_false (fun e=>e.elim hp hm)]
   refine (note_full hb hv hr hl p m hp (by omega)).mono ?_
   rintro e w' ⟨rfl,rfl⟩
   exact⟨rfl,v,o,by rw[hcs];exact hb,hr,Stp.refl _ _ _⟩
theorem log_read (h:LgIn w o id k b L vr vk vh vu) (hk:L.ok) (p:Nat) :
  Calls Tryz.prog 183 #[.pointer (some ⟨b,0,none⟩),.int .i64 p] w fun e w'=>e=.returned (.bool (noteB L.reads p L.mr)) ∧
   ∃ vr' o',LgIn w' o' id k b { L with reads:=noteL L.reads p L.mr } vr' vk vh vu∧Stp (fun t=>t=(id,k)∨t=(id,k+1)) o o' w w':=by
 have HN:=Lib.hid (notel_any (w:=w.drew) _ 2 _ L.reads (id,k) (id,k+1) (drewB h.blk) rfl (h.rr.below (bdrew (bsame w))) (by have:=hk.r;have:=hk.mr;omega) p L.mr h.ob (by simp))
 have HI:=Lib.hid h;have c:=h.blk.cell;generalize noteB L.reads p L.mr=bb at *;clear h hk;go_enter Tryz.func183,Tryz.ntmps183;go_upto_region 1 with fail;go_still_tail 11,(by kernel_rfl)
 change wpList _ _ _ _ _ w.drew;go_wp2_with fail;refine HN.out.mono ?_
 rintro e w1 ⟨rfl,v',o',hb,hr,hs⟩
 go_wp2_with fail;go_ret;have hs':Stp (fun t=>t=(id,k)∨t=(id,k+1)) o o' w w1:=(Stp.of_below (bdrew (bsame w))).trans hs
 have h:=HI.out;exact⟨rfl,v',o',⟨hb,hr,h.rk.stp hs' (by simp),h.rh.stp hs' (by simp),h.ru.stp hs' (by simp),(hs'.tags _ h.blk.lt).trans h.ob⟩,hs'⟩
theorem log_reads (h:LgIn w o id k b L vr vk vh vu)(hk:L.ok)(tg:Tag) :
  Calls Tryz.prog 81 #[.pointer (some ⟨b,0,none⟩)] w fun e w'=>∃ v',e=.returned v'∧Row w' (ext o w.heap.size tg) tg 3 1 v' L.reads.length (L.reads.map nv)∧Below w.heap.size w w':=by
 have HN:=Lib.hid (clone_int h.rr (by have:=hk.r;have:=hk.mr;omega) (map_one _) tg)
 have c:=h.blk.cell;clear h hk;go_enter Tryz.func81,Tryz.ntmps81;go_wp2_with fail;refine HN.out.mono ?_
 rintro e w1 ⟨v',rfl,hr,hb⟩
 go_wp2_with fail;go_ret;exact⟨_,rfl,hr,hb⟩
theorem log_holds (h:LgIn w o id k b L vr vk vh vu)(hk:L.ok)(tg:Tag) :
  Calls Tryz.prog 79 #[.pointer (some ⟨b,0,none⟩)] w fun e w'=>∃ v',e=.returned v'∧Row w' (ext o w.heap.size tg) tg 131 2 v' L.holds.length (hcells L.holds)∧Below w.heap.size w w':=by
 have HN:=Lib.hid (clone_hold h.rh (by have:=hk.h;have:=hk.mu;omega) (hcells_one _) tg)
 have c:=h.blk.cell;clear h hk;go_enter Tryz.func79,Tryz.ntmps79;go_wp2_with fail;refine HN.out.mono ?_
 rintro e w1 ⟨v',rfl,hr,hb⟩
 go_wp2_with fail;go_ret;exact⟨_,rfl,hr,hb⟩
theorem log_undos (h:LgIn w o id k b L vr vk vh vu)(hk:L.ok)(tg:Tag) :
  Calls Tryz.prog 133 #[.pointer (some ⟨b,0,none⟩)] w fun e w'=>∃ v',e=.returned v'∧Row w' (ext o w.heap.size tg) tg 175 4 v' L.undos.length (ucells L.undos)∧Below w.heap.size w w':=by
 have HN:=Lib.hid (clone_undo h.ru (by have:=hk.u;have:=hk.mu;omega) (ucells_one _) tg)
 have c:=h.blk.cell;clear h hk;go_enter Tryz.func133,Tryz.ntmps133;go_wp2_with fail;refine HN.out.mono ?_
 rintro e w1 ⟨v',rfl,hr,hb⟩
 go_wp2_with fail;go_ret;exact⟨_,rfl,hr,hb⟩
theorem log_reset (h:LgIn w o id k b L vr vk vh vu) :
  Calls Tryz.prog 140 #[.pointer (some ⟨b,0,none⟩)] w fun e w'=>e=.returned (.tuple #[])∧LgIn w' o id k b { L with reads:=[],keeps:=[],holds:=[],undos:=[] } (.slice none 0 0) (.slice none 0 0) (.slice none 0 0) (.slice none 0 0)∧Stp (fun t=>t=(id,k)) o o w w':=by
 have HI:=Lib.hid h;have j:=h.blk;have c:=h.blk.cell;have z:=h.blk.free;have s:=h.blk.lt;clear h;go_enter Tryz.func140,Tryz.ntmps140;go_wp2_with fail;go_end0;have hob:=HI.out.ob;refine⟨rfl,⟨(((j.set 2 _).set 3 _).set 4 _).set 5 _,Row.nil _ _ _ _ _,Row.nil _ _ _ _ _,Row.nil _ _ _ _ _,Row.nil _ _ _ _ _,hob⟩,?_⟩;exact ((((Stp.refl _ o w).setCell (by simpa using hob) _).setCell (by simpa using hob) _).setCell (by simpa using hob) _).setCell (by simpa using hob) _
end
end Go.Proofs.YteehgedabdchcaaGreat
namespace Go.Proofs.YteehgedabdchcaaGreat
open Go.RowKit Hp
structure Tx where
 live:Bool
 start:Nat
 seen:Nat
 log:Lg
 took:List (Nat×Nat)
structure Stt where
 H:Hp
 ph:Nat
 now:Nat
 most:Nat
 txs:List Tx
 queue:List (Nat×Nat)
 next:Nat
 holder:Int
 version:Nat
 lost:List Nat
 came:List Nat
def liveN (l:List Tx):Nat:=(l.filter (·.live)).length
def tookN:List Tx→Nat
 | []=>0
 | x::l=>x.took.length+tookN l
def SecOk (v:Nat):Prop:=v%2=1→v/2<8
structure Lg.fit (L:Lg):Prop where
 ok:L.ok
 hv:∀ z ∈ L.holds,z.2≤1099511627776
 un:∀ u ∈ L.undos,-9223372036854775808≤u.old∧u.old≤9223372036854775807
 kd:∀ u ∈ L.undos,u.kind=1→0≤u.old
structure Stt.ok (S:Stt):Prop where
 H:S.H.wf
 n2:S.most≤1099511627776
 lv:S.now+liveN S.txs≤S.most
 t1:1≤S.txs.length
 t8:S.txs.length≤8
 lg:∀ x ∈ S.txs,x.log.fit
 st:∀ x ∈ S.txs,x.start≤S.now
 ve:S.version≤S.now
 ho:-1≤S.holder∧S.holder≤8
 sc:∀ x ∈ S.H.cur,SecOk x.2.second
 so:∀ x ∈ S.H.old,SecOk x.2.1.second
 qu:S.queue.length+tookN S.txs≤S.next
 nx:S.next+S.H.final.length≤S.H.serial
 cm:S.came.length≤S.next
 se:∀ x ∈ S.txs,x.seen≤S.next
 ph:S.ph≤2∧(S.ph=0↔S.H.moving=false)
theorem Stt.ok.n1 {S:Stt}(h:S.ok):S.now≤S.most:=by have:=h.lv;omega
theorem Stt.ok.nx2 {S:Stt}(h:S.ok):S.next≤1099511627776:=by have:=h.nx;have:=h.H.ok.ser;omega
structure SLay where
 sb:Nat
 l:HLay
 cy:Nat
 ck:Nat
 vth:Value
 xb:Nat→Nat
 lb:Nat→Nat
abbrev ptr (b:Nat):Value:=.pointer (some ⟨b,0,none⟩)
def txCells (i:Nat)(x:Tx)(lb:Nat)(vt:Value):Array Value:=#[.int .i64 i,.bool x.live,.int .i64 x.start,.int .i64 x.seen,ptr lb,vt]
structure TxIn (w:World)(o:Own)(id i xb lb:Nat)(x:Tx):Prop where
 blk:∃ vt,Blk w xb (txCells i x lb vt) 107∧Row w o (id,22+8*i) 117 2 vt x.took.length (hcells x.took)
 log:∃ vr vk vh vu,LgIn w o id (17+8*i) lb x.log vr vk vh vu
 ob:o xb=(id,16+8*i)
theorem TxIn.lt {w:World}{o:Own}{id i xb lb:Nat}{x:Tx}(h:TxIn w o id i xb lb x):xb<w.heap.size:=by obtain⟨_,hb,_⟩:=h.blk;exact hb.lt
def phV (cy:Nat)(n:Nat):Value:=if n=1 then .func (.func 126) #[ptr cy] #[] else .func (.func 190) #[ptr cy] #[]
def cyCells (y:SLay)(vp:Value):Array Value:=#[ptr y.l.h,vp,.slice none 0 0,.slice none 0 0]
def HpAt (w:World)(o:Own)(l:HLay)(H:Hp):Prop:=∃ vc vo vw vf f,HpIn w o l H vc vo vw vf f
def stCells (y:SLay)(S:Stt)(vq vl vm:Value):Array Value:=
 #[ptr y.l.h,ptr y.cy,ptr y.ck,y.vth,vq,.int .i64 S.next,.int .i64 S.holder,.int .i64 S.version,vl,vm]
structure StRows (w:World)(o:Own)(id:Nat)(S:Stt)(vq vl vm:Value):Prop where
 q:Row w o (id,13) 117 2 vq S.queue.length (hcells S.queue)
 l:Row w o (id,14) 3 1 vl S.lost.length (S.lost.map nv)
 m:Row w o (id,15) 3 1 vm S.came.length (S.came.map nv)
def phF (cy:Nat)(n:Nat):Value:=if n=0 then .nilFunc else phV cy n
structure StIn (w:World)(o:Own)(y:SLay)(S:Stt):Prop where
 blk:∃ vq vl vm,Blk w y.sb (stCells y S vq vl vm) 101∧StRows w o y.l.id S vq vl vm
 cy:Blk w y.cy (cyCells y (phF y.cy S.ph)) 201
 hp:HpAt w o y.l S.H
 ck:Blk w y.ck #[.int .i64 S.now,.int .i64 S.most] 193
 thr:Row w o (y.l.id,12) 103 1 y.vth S.txs.length ((List.range S.txs.length).map fun i=>ptr (y.xb i))
 txs:∀ i x,S.txs[i]?=some x→TxIn w o y.l.id i (y.xb i) (y.lb i) x
 oc:o y.ck=(y.l.id,10)
 os:o y.sb=(y.l.id,11)
 oy:o y.cy=(y.l.id,7)
theorem HpIn.stp {T:Tag→Prop}{w w':World}{o o':Own}{l:HLay}{H:Hp}{vc vo vw vf:Value}{f:Nat→Nat}(h:HpIn w o l H vc vo vw vf f)(hs:Stp T o o' w w')(hn:∀ j,j≤6→¬T (l.id,j)):HpIn w' o' l H vc vo vw vf f:=
 ⟨h.hb.stp hs (by rw[h.oh];exact hn 0 (by omega)),h.wds.stp hs (by rw[h.oa];exact hn 1 (by omega)) (by rw[h.ow];exact hn 2 (by omega)),
  h.rc.stp hs (hn _ (by split<;>omega)),h.ro.stp hs (hn _ (by split<;>omega)),h.rw.stp hs (hn 5 (by omega)),h.rf.stp hs (hn 6 (by omega)),
  (hs.tags _ h.hb.lt).trans h.oh,(hs.tags _ h.wds.arena.lt).trans h.oa,(hs.tags _ h.wds.lt).trans h.ow,h.obs,h.olds,h.zr⟩
theorem HpAt.stp {T:Tag→Prop}{w w':World}{o o':Own}{l:HLay}{H:Hp}(h:HpAt w o l H)(hs:Stp T o o' w w')(hn:∀ j,j≤6→¬T (l.id,j)):HpAt w' o' l H:=by
 obtain⟨vc,vo,vw,vf,f,h⟩:=h;exact⟨vc,vo,vw,vf,f,h.stp hs hn⟩
theorem TxIn.stp {T:Tag→Prop}{w w':World}{o o':Own}{id i xb lb:Nat}{x:Tx}(h:TxIn w o id i xb lb x)(hs:Stp T o o' w w')(hn:∀ j,j≤7→¬T (id,16+8*i+j)):TxIn w' o' id i xb lb x:=by
 obtain⟨vr,vk,vh,vu,hl⟩:=h.log;obtain⟨vt,hb,hr⟩:=h.blk;refine⟨⟨vt,hb.stp hs (by rw[h.ob];exact hn 0 (by omega)),hr.stp hs ?_⟩,⟨vr,vk,vh,vu,hl.stp hs fun j hj=>?_⟩,(hs.tags _ hb.lt).trans h.ob⟩
 ·have:=hn 6 (by omega)
  rwa [show 16+8*i+6=22+8*i from by omega]at this
 ·have:=hn (1+j) (by omega)
  rwa [show 16+8*i+(1+j)=17+8*i+j from by omega]at this
theorem StRows.stp {T:Tag→Prop}{w w':World}{o o':Own}{id:Nat}{S:Stt}{vq vl vm:Value}(h:StRows w o id S vq vl vm)(hs:Stp T o o' w w')(hn:∀ j,13≤j→j≤15→¬T (id,j)):StRows w' o' id S vq vl vm:=
 ⟨h.q.stp hs (hn 13 (by omega) (by omega)),h.l.stp hs (hn 14 (by omega) (by omega)),h.m.stp hs (hn 15 (by omega) (by omega))⟩
section
variable {w w' : World} {o o' : Own} {y : SLay} {S : Stt}
theorem StIn.lt (h:StIn w o y S):y.sb<w.heap.size:=by obtain⟨_,_,_,hb,_⟩:=h.blk;exact hb.lt
theorem StIn.stp {T:Tag→Prop}(h:StIn w o y S)(hs:Stp T o o' w w')(hn:∀ j,¬T (y.l.id,j)):StIn w' o' y S:=by
 obtain⟨vq,vl,vm,hb,hr⟩:=h.blk;exact⟨⟨vq,vl,vm,hb.stp hs (by rw[h.os];exact hn _),hr.stp hs fun j _ _=>hn j⟩,h.cy.stp hs (by rw[h.oy];exact hn _),h.hp.stp hs fun j _=>hn j,h.ck.stp hs (by rw[h.oc];exact hn _),h.thr.stp hs (hn _),fun i x hx=>(h.txs i x hx).stp hs fun j _=>hn _,(hs.tags _ h.ck.lt).trans h.oc,(hs.tags _ h.lt).trans h.os,(hs.tags _ h.cy.lt).trans h.oy⟩
theorem StIn.below (h:StIn w o y S)(hb:Below w.heap.size w w'):StIn w' o y S:=h.stp (T:=fun _=>False) (Stp.of_below hb) fun _ h=>h
theorem StIn.retag (h:StIn w o y S)(he:∀ b,b<w.heap.size→o' b=o b):StIn w o' y S:=
 h.stp (T:=fun _=>False) ⟨rfl,rfl,rfl,Nat.le_refl _,he,fun _ _ _=>rfl⟩ fun _ h=>h
theorem StIn.box (h:StIn w o y S){a:Addr}(ht:o a.block=(y.l.id+1,0))(v:Value):StIn (w.setCell a v) o y S:=
 h.stp (T:=fun t=>t=(y.l.id+1,0)) ((Stp.refl _ o w).setCell ht v) fun j=>by simp
theorem StIn.alloc (h:StIn w o y S)(x:Obj):StIn (w.alloc x) o y S:=h.below (balloc (bsame w) x)
theorem StIn.heap (h:StIn w o y S){H':Hp}(hh:HpAt w' o' y.l H')(hs:Stp (hTag y.l) o o' w w'):StIn w' o' y { S with H:=H' }:=by
 obtain⟨vq,vl,vm,hb,hr⟩:=h.blk;have hn:∀ j,7≤j→¬hTag y.l (y.l.id,j):=fun j hj hh=>by have:=hh.2;simp at this;omega
 exact⟨⟨vq,vl,vm,hb.stp hs (by rw[h.os];exact hn _ (by omega)),(hr.stp hs fun j _ _=>hn j (by omega):StRows w' o' y.l.id S vq vl vm).1,(hr.stp hs fun j _ _=>hn j (by omega):StRows w' o' y.l.id S vq vl vm).2,(hr.stp hs fun j _ _=>hn j (by omega):StRows w' o' y.l.id S vq vl vm).3⟩,h.cy.stp hs (by rw[h.oy];exact hn _ (by omega)),hh,h.ck.stp hs (by rw[h.oc];exact hn _ (by omega)),h.thr.stp hs (hn _ (by omega)),fun i x hx=>(h.txs i x hx).stp hs fun j _=>hn _ (by omega),(hs.tags _ h.ck.lt).trans h.oc,(hs.tags _ h.lt).trans h.os,(hs.tags _ h.cy.lt).trans h.oy⟩
def txTag (y:SLay)(i:Nat)(t:Tag):Prop:=t.1=y.l.id∧16+8*i≤t.2∧t.2≤23+8*i
theorem txTag_no {y:SLay}{i j:Nat}(h:j<16):¬txTag y i (y.l.id,j):=fun hh=>by have:=hh.2.1;simp at this;omega
theorem tookN_set:∀ (l:List Tx)(i:Nat)(x z:Tx),l[i]?=some z→tookN (l.set i x)+z.took.length=tookN l+x.took.length
 | [],i,x,z,h=>by simp at h
 | q::l,0,x,z,h=>by simp at h;subst h;simp[tookN];omega
 | q::l,i+1,x,z,h=>by
  have:=tookN_set l i x z (by simpa using h)
  simp[tookN];omega
theorem liveN_cons (q:Tx)(l:List Tx):liveN (q::l)=(if q.live then 1 else 0)+liveN l:=by
 unfold liveN;rw[List.filter_cons];split
 ·rw[List.length_cons];omega
 ·omega
theorem liveN_set:∀ (l:List Tx)(i:Nat)(x z:Tx),l[i]?=some z→liveN (l.set i x)+(if z.live then 1 else 0)=liveN l+if x.live then 1 else 0
 | [],i,x,z,h=>by simp at h
 | q::l,0,x,z,h=>by
  simp at h;subst h;rw[List.set_cons_zero,liveN_cons,liveN_cons];omega
 | q::l,i+1,x,z,h=>by
  have:=liveN_set l i x z (by simpa using h)
  rw[List.set_cons_succ,liveN_cons,liveN_cons];omega
theorem StIn.tx (h:StIn w o y S){i:Nat}{x':Tx}(hx':TxIn w' o' y.l.id i (y.xb i) (y.lb i) x')(hs:Stp (txTag y i) o o' w w'):StIn w' o' y { S with txs:=S.txs.set i x' }:=by
 obtain⟨vq,vl,vm,hb,hr⟩:=h.blk;refine⟨⟨vq,vl,vm,hb.stp hs (by rw[h.os];exact txTag_no (by omega)),?_⟩,h.cy.stp hs (by rw[h.oy];exact txTag_no (by omega)),h.hp.stp hs fun j hj=>txTag_no (by omega),h.ck.stp hs (by rw[h.oc];exact txTag_no (by omega)),?_,fun j x hx=>?_,(hs.tags _ h.ck.lt).trans h.oc,(hs.tags _ h.lt).trans h.os,(hs.tags _ h.cy.lt).trans h.oy⟩
 ·have hr':=hr.stp hs fun j _ _=>txTag_no (by omega)
  exact⟨hr'.q,hr'.l,hr'.m⟩
 ·show Row w' o' _ _ 1 y.vth (S.txs.set i x').length _
  rw[List.length_set];exact h.thr.stp hs (txTag_no (by omega))
 ·simp only[List.getElem?_set]at hx
  split at hx
  ·rename_i e;subst e
   split at hx
   ·injection hx with hx;subst hx;exact hx'
   ·cases hx
  ·rename_i e
   exact (h.txs j x hx).stp hs fun k hk hh=>by have:=hh.2;simp at this;omega
theorem StIn.clock (h:StIn w o y S){n:Nat}(hc:Blk w' y.ck #[.int .i64 n,.int .i64 S.most] 193)(hs:Stp (fun t=>t=(y.l.id,10)) o o' w w'):StIn w' o' y { S with now:=n }:=by
 obtain⟨vq,vl,vm,hb,hr⟩:=h.blk;have hn:∀ j,j≠10→¬(y.l.id,j)=(y.l.id,10):=fun j hj e=>hj (by simpa using e)
 have hr':=hr.stp hs fun j _ _=>hn j (by omega)
 exact⟨⟨vq,vl,vm,hb.stp hs (by rw[h.os];exact hn _ (by omega)),hr'.q,hr'.l,hr'.m⟩,h.cy.stp hs (by rw[h.oy];exact hn _ (by omega)),h.hp.stp hs fun j hj=>hn _ (by omega),hc,h.thr.stp hs (hn _ (by omega)),fun i x hx=>(h.txs i x hx).stp hs fun j _=>hn _ (by omega),(hs.tags _ h.ck.lt).trans h.oc,(hs.tags _ h.lt).trans h.os,(hs.tags _ h.cy.lt).trans h.oy⟩
def ownTag (y:SLay)(t:Tag):Prop:=t.1=y.l.id∧(t.2=11∨t.2=13∨t.2=14∨t.2=15)
theorem ownTag_no {y:SLay}{j:Nat}(h1:j≠11)(h2:j≠13)(h3:j≠14)(h4:j≠15):¬ownTag y (y.l.id,j):=fun hh=>by have:=hh.2;simp at this;omega
theorem StIn.own (h:StIn w o y S){S':Stt}(e1:S'.H=S.H)(e2:S'.ph=S.ph)(e3:S'.now=S.now)(e4:S'.most=S.most)(e5:S'.txs=S.txs)
  {vq vl vm:Value}(hb:Blk w' y.sb (stCells y S' vq vl vm) 101)(hr:StRows w' o' y.l.id S' vq vl vm)(hs:Stp (ownTag y) o o' w w'):StIn w' o' y S':=by
 have hn:∀ j,j≠11→j≠13→j≠14→j≠15→¬ownTag y (y.l.id,j):=fun j a b c d=>ownTag_no a b c d
 exact⟨⟨vq,vl,vm,hb,hr⟩,by rw[e2];exact h.cy.stp hs (by rw[h.oy];exact hn _ (by omega) (by omega) (by omega) (by omega)),by rw[e1];exact h.hp.stp hs fun j hj=>hn _ (by omega) (by omega) (by omega) (by omega),
  by rw[e3,e4];exact h.ck.stp hs (by rw[h.oc];exact hn _ (by omega) (by omega) (by omega) (by omega)),by rw[e5];exact h.thr.stp hs (hn _ (by omega) (by omega) (by omega) (by omega)),fun i x hx=>(h.txs i x (by rw[←e5];exact hx)).stp hs fun j _=>hn _ (by omega) (by omega) (by omega) (by omega),
  (hs.tags _ h.ck.lt).trans h.oc,(hs.tags _ h.lt).trans h.os,(hs.tags _ h.cy.lt).trans h.oy⟩
theorem StIn.thrCell (h:StIn w o y S)(i:Nat)(hi:i<S.txs.length):∃ g cap,y.vth=.slice (some ⟨g,0,none⟩) S.txs.length cap∧w.cell? ⟨g,i,none⟩=some (ptr (y.xb i))∧S.txs.length≤cap:=by
 rcases h.thr.form with ⟨_,h0⟩|⟨g,cap,e,hn,hc,_⟩
 ·omega
 ·refine⟨g,cap,e,?_,hn⟩
  have hr:=h.thr;rw[e]at hr;refine hr.cells i _ ?_;rw[List.getElem?_map,List.getElem?_range hi];rfl
def stTag (y:SLay)(t:Tag):Prop:=t.1=y.l.id
theorem stTag_box (y:SLay):¬stTag y (y.l.id+1,0):=by unfold stTag;simp
theorem stTag_tx {y:SLay}{i:Nat}{t:Tag}(h:txTag y i t):stTag y t:=h.1
theorem stTag_hp {y:SLay}{t:Tag}(h:hTag y.l t):stTag y t:=h.1
theorem stTag_own {y:SLay}{t:Tag}(h:ownTag y t):stTag y t:=h.1
def Lft (y:SLay)(S:Stt)(o:Own)(w w':World):Prop:=∃ o',StIn w' o' y S∧Stp (stTag y) o o' w w'
theorem StIn.lft (h:StIn w o y S)(hb:Below w.heap.size w w'):Lft y S o w w':=⟨o,h.below hb,Stp.of_below hb⟩
theorem StIn.lft_same (h:StIn w o y S):Lft y S o w w:=h.lft (bsame w)
end
def Stt.t (S:Stt)(i:Nat):Tx:=S.txs.getD i ⟨false,0,0,⟨0,0,[],[],[],[]⟩,[]⟩
theorem Stt.t_get {S:Stt}{i:Nat}(h:i<S.txs.length):S.txs[i]?=some (S.t i):=by
 unfold Stt.t;simp[List.getD,List.getElem?_eq_getElem h]
def Stt.tx (S:Stt)(i:Nat)(x:Tx):Stt:={ S with txs:=S.txs.set i x }
theorem Stt.tx_t {S:Stt}{i:Nat}(h:i<S.txs.length)(x:Tx):(S.tx i x).t i=x:=by
 unfold Stt.t Stt.tx;simp[List.getD,h]
theorem Stt.tx_ne (S:Stt){i j:Nat}(h:i≠j)(x:Tx):(S.tx i x).t j=S.t j:=by
 unfold Stt.t Stt.tx;simp[List.getD,List.getElem?_set_ne h]
theorem Stt.tx_len (S:Stt)(i:Nat)(x:Tx):(S.tx i x).txs.length=S.txs.length:=by simp[Stt.tx]
theorem Stt.tx_tx (S:Stt)(i:Nat)(x z:Tx):(S.tx i x).tx i z=S.tx i z:=by simp[Stt.tx,List.set_set]
theorem Stt.ok_h {S:Stt}(hk:S.ok){H':Hp}(h:H'.wf)(hs:∀ x ∈ H'.cur,SecOk x.2.second)(ho:∀ x ∈ H'.old,SecOk x.2.1.second)(hf:S.next+H'.final.length≤H'.serial)(hm:H'.moving=S.H.moving):Stt.ok { S with H:=H' }:=
 ⟨h,hk.n2,hk.lv,hk.t1,hk.t8,hk.lg,hk.st,hk.ve,hk.ho,hs,ho,hk.qu,hf,hk.cm,hk.se,by rw[hm];exact hk.ph⟩
theorem Stt.ok_tx {S:Stt}(hk:S.ok){i:Nat}{x x':Tx}(hx:S.txs[i]?=some x)(h1:x'.log.fit)(h2:x'.start≤S.now)(h3:x'.seen≤S.next)(h4:x'.live=x.live)(h5:x'.took=x.took):Stt.ok (S.tx i x'):=by
 have hl:=liveN_set S.txs i x' x hx;have ht:=tookN_set S.txs i x' x hx;rw[h4]at hl;rw[h5]at ht;have hmem:∀ z ∈ S.txs.set i x',z ∈ S.txs∨z=x':=fun z hz=>List.mem_or_eq_of_mem_set hz
 refine⟨hk.H,hk.n2,by have hl':=Nat.add_right_cancel hl;show S.now+liveN (S.txs.set i x')≤S.most;rw[hl'];exact hk.lv,by simpa [Stt.tx] using hk.t1,by simpa [Stt.tx] using hk.t8,fun z hz=>?_,fun z hz=>?_,hk.ve,hk.ho,hk.sc,hk.so,by show S.queue.length+tookN (S.txs.set i x')≤S.next;have:=hk.qu;omega,hk.nx,hk.cm,fun z hz=>?_,hk.ph⟩
 ·rcases hmem z hz with h|rfl
  ·exact hk.lg z h
  ·exact h1
 ·rcases hmem z hz with h|rfl
  ·exact hk.st z h
  ·exact h2
 ·rcases hmem z hz with h|rfl
  ·exact hk.se z h
  ·exact h3
end Go.Proofs.YteehgedabdchcaaGreat
namespace Go.Proofs.YteehgedabdchcaaGreat
open Go.RowKit Hp
attribute [local go_sem ↓] Go.wp_at_zero Go.wp_at_succ
def Hp.sec (H:Hp)(p:Nat):Nat:=match lk H.cur p with|some ob=>ob.second|none=>0
def Hp.serR (H:Hp)(p:Nat):Nat×Nat:=match lk H.cur p with|some ob=>(ob.serial,0)|none=>(0,70)
def Hp.numR (H:Hp)(p i:Nat):Int×Nat:=match lk H.cur p with|none=>(0,70)|some ob=>match ob.nums[i]? with|none=>(0,71)|some n=>(n,0)
def clashB (i start v:Nat):Bool:=if v%2=1 then decide (v/2≠i) else decide (start<v/2)
theorem Stt.ok.sec {S:Stt}(hk:S.ok)(p:Nat):SecOk (S.H.sec p)∧S.H.sec p≤2199023255552:=by
 unfold Hp.sec;split
 ·rename_i ob hp;exact⟨hk.sc _ (lk_mem hp),(hk.H.obk hp).sec⟩
 ·exact⟨fun h=>by simp at h,by omega⟩
theorem up_sec {l:List (Nat×Ob)}{p:Nat}{o:Ob}{P:Nat→Prop}(h:∀ x ∈ l,P x.2.second)(ho:P o.second):∀ x ∈ up l p o,P x.2.second:=by
 intro x hx;obtain⟨z,hz,rfl⟩:=List.mem_map.1 hx;split
 ·exact ho
 ·exact h z hz
theorem Stt.ok_up {S:Stt}(hk:S.ok){p:Nat}{ob ob':Ob}(hp:lk S.H.cur p=some ob)(ho:ob'.ok)(hs:ob'.shp=ob.shp)(h2:SecOk ob'.second):Stt.ok { S with H:={ S.H with cur:=up S.H.cur p ob' } }:=
 Stt.ok_h hk (up_wf hk.H hp ho hs) (up_sec hk.sc h2) hk.so hk.nx rfl
theorem Stt.ok_setPtr {S:Stt}(hk:S.ok)(p i q:Nat):Stt.ok { S with H:=(S.H.setPtrR p i q).1 }:=by
 unfold Hp.setPtrR;split
 ·exact hk
 ·rename_i ob hp
  split
  ·exact hk
  ·rename_i hq
   split
   ·exact hk
   ·exact Stt.ok_up hk hp (Ob.setPtr_ok (hk.H.obk hp) i q (plc_bd hk.H.ok hq)) rfl (hk.sc _ (lk_mem hp))
theorem Stt.ok_setNum {S:Stt}(hk:S.ok)(p i:Nat){n:Int}(hn:-9223372036854775808≤n∧n≤9223372036854775807):Stt.ok { S with H:=(S.H.setNumR p i n).1 }:=by
 unfold Hp.setNumR;split
 ·exact hk
 ·rename_i ob hp
  split
  ·exact hk
  ·exact Stt.ok_up hk hp (Ob.setNum_ok (hk.H.obk hp) i n hn) rfl (hk.sc _ (lk_mem hp))
theorem Stt.ok_setFreed {S:Stt}(hk:S.ok)(p:Nat)(b:Bool):Stt.ok { S with H:=(S.H.setFreedR p b).1 }:=by
 unfold Hp.setFreedR;split
 ·exact hk
 ·rename_i ob hp;exact Stt.ok_up hk hp (Ob.setFreed_ok (hk.H.obk hp) b) rfl (hk.sc _ (lk_mem hp))
theorem Stt.ok_setSecond {S:Stt}(hk:S.ok)(p:Nat){v:Nat}(hv:v≤2199023255552)(h2:SecOk v):Stt.ok { S with H:=(S.H.setSecondR p v).1 }:=by
 unfold Hp.setSecondR;split
 ·exact hk
 ·rename_i ob hp;exact Stt.ok_up hk hp (Ob.setSecond_ok (hk.H.obk hp) v hv) rfl h2
theorem goneTo_sec {l:List (Nat×Ob×Option Nat)}{p q:Nat}(h:∀ x ∈ l,SecOk x.2.1.second):∀ x ∈ goneTo l p q,SecOk x.2.1.second:=by
 intro x hx;unfold goneTo at hx;obtain⟨z,hz,rfl⟩:=List.mem_map.1 hx;split
 ·exact h z hz
 ·exact h z hz
def Secs (H:Hp):Prop:=(∀ x ∈ H.cur,SecOk x.2.second)∧∀ x ∈ H.old,SecOk x.2.1.second
theorem Stt.ok.secs {S:Stt}(hk:S.ok):Secs S.H:=⟨hk.sc,hk.so⟩
theorem Secs.moved {H:Hp}(h:Secs H)(p:Nat):Secs (H.moved p).1:=by
 unfold Hp.moved;split
 ·exact h
 ·exact h
 ·rename_i ob hp
  refine⟨fun x hx=>?_,goneTo_sec h.2⟩
  rcases List.mem_append.1 (show x ∈ H.cur++_ from hx) with hx|hx
  ·exact h.1 x hx
  ·rw[List.mem_singleton.1 hx];exact h.2 _ (lko_mem hp)
theorem Secs.movedL:∀ (l:List Nat){H:Hp},Secs H→Secs (H.movedL l).1
 | [],_,h=>h
 | p::l,_,h=>Secs.movedL l (h.moved p)
theorem Stt.ok_moved {S:Stt}(hk:S.ok)(p:Nat):Stt.ok { S with H:=(S.H.moved p).1 }:=by
 have h:=moved_same (H:=S.H) p;exact Stt.ok_h hk (Hp.moved_wf hk.H p) (hk.secs.moved p).1 (hk.secs.moved p).2 (by rw[h.2.2.2.2.2.2.1,h.2.2.2.2.1];exact hk.nx) h.2.2.1
theorem Stt.ok_ptr {S:Stt}(hk:S.ok)(p i:Nat):Stt.ok { S with H:=(S.H.ptrR p i).1 }:=by
 unfold Hp.ptrR;split
 ·exact hk
 ·rename_i ob hp
  split
  ·exact hk
  ·rename_i x hx
   split
   ·have h1:=Stt.ok_moved hk x
    have ho:=hk.H.obk hp;exact Stt.ok_up h1 (lk_moved hp) (Ob.setPtr_ok ho i _ (moved_bd hk.H.ok (ho.ptr x (List.mem_of_getElem? hx)))) rfl (hk.sc _ (lk_mem hp))
   ·exact hk
theorem Stt.ok_lay {S:Stt}(hk:S.ok){s:Shp}(hs:s.ok)(hr:S.H.roomy s=true):Stt.ok { S with H:=S.H.lay s }:=by
 refine Stt.ok_h hk (Hp.lay_wf hk.H hs hr) (fun x hx=>?_) hk.so ?_ rfl
 ·rcases List.mem_append.1 (show x ∈ S.H.cur++_ from hx) with hx|hx
  ·exact hk.sc x hx
  ·rw[List.mem_singleton.1 hx];intro h;simp[Ob.new]at h
 ·show S.next+List.length (if s.final then _ else _)≤S.H.serial+1
  have:=hk.nx;split<;>simp<;>omega
theorem Stt.ok_alloc {S:Stt}(hk:S.ok){s:Shp}(hs:s.ok):Stt.ok { S with H:=(S.H.allocR s).1 }:=by
 unfold Hp.allocR;split
 ·rename_i hr;exact Stt.ok_lay hk hs hr
 ·exact hk
section
variable {w w' : World} {o o' : Own} {y : SLay} {S : Stt} {x : Tx} {i : Nat}
theorem HpIn.st_wr {l:HLay}{H H':Hp}{vc vo vw vf:Value}{f:Nat→Nat}(hh:HpIn w o l H vc vo vw vf f)(h':∃ f',HpIn w' o l H' vc vo vw vf f')(hw:Wr l.wd w w'):HpAt w' o l H'∧Stp (hTag l) o o w w':=by
 obtain⟨f',h'⟩:=h';exact⟨⟨vc,vo,vw,vf,f',h'⟩,Stp.of_wr hw (by rw[hh.ow];exact⟨rfl,by simp⟩)⟩
theorem StIn.lft_heap (h:StIn w o y S){H':Hp}(hh:HpAt w' o y.l H')(hs:Stp (hTag y.l) o o w w'):Lft y { S with H:=H' } o w w':=⟨o,h.heap hh hs,hs.mono fun _=>stTag_hp⟩
theorem s_num (h:StIn w o y S)(hk:S.ok)(p j:Nat) :
  Calls Tryz.prog 76 #[ptr y.l.h,.int .i64 p,.int .i64 j] w fun e w'=>e=.returned (.tuple #[.int .i64 (S.H.numR p j).1,.int .i64 ((S.H.numR p j).2:Nat)])∧Below w.heap.size w w':=by
 obtain⟨vc,vo,vw,vf,f,hh⟩:=h.hp;unfold Hp.numR
 cases hp:lk S.H.cur p with
 | none=>exact hnum_no hh hk.H.ok hp j
 | some ob =>
  simp only
  cases hn:ob.nums[j]? with
  | none=>exact hnum_out hh hk.H.ok hp j (by have:=List.getElem?_eq_none_iff.1 hn;rw[(hk.H.obk hp).ln]at this;exact this)
  | some n=>exact hnum_in hh hk.H.ok hp j n hn
theorem s_second (h:StIn w o y S)(hk:S.ok)(p:Nat) :
  Calls Tryz.prog 141 #[ptr y.l.h,.int .i64 p] w fun e w'=>∃ er:Int,e=.returned (.tuple #[.int .u64 (S.H.sec p:Nat),.int .i64 er])∧Below w.heap.size w w':=by
 obtain⟨vc,vo,vw,vf,f,hh⟩:=h.hp;unfold Hp.sec
 cases hp:lk S.H.cur p with
 | none=>exact (hsecond_no hh hk.H.ok hp).mono fun _ _⟨a,b⟩=>⟨70,a,b⟩
 | some ob=>exact (hsecond_in hh hk.H.ok hp).mono fun _ _⟨a,b⟩=>⟨0,a,b⟩
theorem s_here (h:StIn w o y S)(hk:S.ok)(p:Nat) :
  Calls Tryz.prog 61 #[ptr y.l.h,.int .i64 p] w fun e w'=>e=.returned (.bool (lk S.H.cur p).isSome)∧Below w.heap.size w w':=by
 obtain⟨vc,vo,vw,vf,f,hh⟩:=h.hp;exact here_any hh hk.H.ok p p rfl
theorem s_setnum (h:StIn w o y S)(hk:S.ok)(p j:Nat)(n:Int)(hn:-9223372036854775808≤n∧n≤9223372036854775807) :
  Calls Tryz.prog 110 #[ptr y.l.h,.int .i64 p,.int .i64 j,.int .i64 n] w fun e w'=>e=.returned (.int .i64 ((S.H.setNumR p j n).2:Nat))∧Lft y { S with H:=(S.H.setNumR p j n).1 } o w w':=by
 obtain⟨vc,vo,vw,vf,f,hh⟩:=h.hp;unfold Hp.setNumR
 cases hp:lk S.H.cur p with
 | none=>exact (hsetnum_no hh hk.H.ok hp j n).mono fun _ _⟨a,b⟩=>⟨a,h.lft b⟩
 | some ob =>
  simp only;by_cases hj:ob.shp.d≤j
  ·rw[if_pos hj]
   exact (hsetnum_out hh hk.H.ok hp j n hj).mono fun _ _⟨a,b⟩=>⟨a,h.lft b⟩
  ·rw[if_neg hj]
   refine (hsetnum_in hh hk.H.ok hp j n (by omega) hn).mono ?_
   rintro e w'⟨rfl,_,h',hw⟩
   obtain⟨a1,a2⟩:=hh.st_wr h' hw;exact⟨rfl,h.lft_heap a1 a2⟩
theorem s_setfreed (h:StIn w o y S)(hk:S.ok)(p:Nat)(b:Bool) :
  Calls Tryz.prog 121 #[ptr y.l.h,.int .i64 p,.bool b] w fun e w'=>e=.returned (.int .i64 ((S.H.setFreedR p b).2:Nat))∧Lft y { S with H:=(S.H.setFreedR p b).1 } o w w':=by
 obtain⟨vc,vo,vw,vf,f,hh⟩:=h.hp;unfold Hp.setFreedR
 cases hp:lk S.H.cur p with
 | none=>exact (hsetfreed_no hh hk.H.ok hp b).mono fun _ _⟨a,b⟩=>⟨a,h.lft b⟩
 | some ob =>
  refine (hsetfreed_in hh hk.H.ok hp b).mono ?_
  rintro e w'⟨rfl,_,h',hw⟩
  obtain⟨a1,a2⟩:=hh.st_wr h' hw;exact⟨rfl,h.lft_heap a1 a2⟩
theorem s_setsecond (h:StIn w o y S)(hk:S.ok)(p v:Nat)(hv:v≤2199023255552) :
  Calls Tryz.prog 145 #[ptr y.l.h,.int .i64 p,.int .u64 v] w fun e w'=>e=.returned (.int .i64 ((S.H.setSecondR p v).2:Nat))∧Lft y { S with H:=(S.H.setSecondR p v).1 } o w w':=by
 obtain⟨vc,vo,vw,vf,f,hh⟩:=h.hp;unfold Hp.setSecondR
 cases hp:lk S.H.cur p with
 | none=>exact (hsetsecond_no hh hk.H.ok hp v).mono fun _ _⟨a,b⟩=>⟨a,h.lft b⟩
 | some ob =>
  refine (hsetsecond_in hh hk.H.ok hp v hv).mono ?_
  rintro e w'⟨rfl,_,h',hw⟩
  obtain⟨a1,a2⟩:=hh.st_wr h' hw;exact⟨rfl,h.lft_heap a1 a2⟩
theorem s_alloc (h:StIn w o y S)(hk:S.ok)(s:Shp)(hs:s.ok) :
  Calls Tryz.prog 167 #[ptr y.l.h,shpV s] w fun e w'=>e=.returned (.tuple #[.int .i64 ((S.H.allocR s).2.1:Nat),.int .i64 ((S.H.allocR s).2.2:Nat)])∧Lft y { S with H:=(S.H.allocR s).1 } o w w':=by
 obtain⟨vc,vo,vw,vf,f,hh⟩:=h.hp;refine (alloc_any hh hk.H s hs).mono ?_
 rintro e w' ⟨rfl,vc',vo',vw',vf',f',o',hh',hs⟩
 exact⟨rfl,o',h.heap ⟨_,_,_,_,_,hh'⟩ hs,hs.mono fun _=>stTag_hp⟩
theorem thread_in (h:StIn w o y S)(hk:S.ok)(hi:i<S.txs.length) :
  Calls Tryz.prog 52 #[ptr y.sb,.int .i64 i] w fun e w'=>e=.returned (ptr (y.xb i))∧w=w':=by
 obtain⟨g,cap,e,hc,hcap⟩:=h.thrCell i hi;obtain⟨vq,vl,vm,hb,_⟩:=h.blk;unfold stCells at hb;rw[e]at hb;have c:=hb.cell;have hI:(i:Int)<(S.txs.length:Int):=by omega
 have h8:=hk.t8;clear h hk;go_enter Tryz.func52,Tryz.ntmps52;go_wp2_with fail;go_ret;exact⟨rfl,rfl⟩
theorem TxIn.cell {id xb lb:Nat}(h:TxIn w o id i xb lb x):∃ vt,∀ j,w.cell? ⟨xb,j,none⟩=(#[.int .i64 i,.bool x.live,.int .i64 x.start,.int .i64 x.seen,ptr lb,vt]:Array Value)[j]?:=by
 obtain⟨vt,hb,_⟩:=h.blk;exact⟨vt,hb.cell⟩
theorem running_in (h:StIn w o y S)(hk:S.ok)(hx:S.txs[i]?=some x) :
  Calls Tryz.prog 72 #[ptr y.sb,.int .i64 i] w fun e w'=>e=.returned (if x.live then ptr (y.xb i) else .pointer none)∧w=w':=by
 have HT:=Lib.hid (thread_in h hk (List.getElem?_eq_some_iff.1 hx).1);obtain⟨vt,c⟩:=(h.txs i x hx).cell;clear h hk hx
 cases hl:x.live
 all_goals
  rw[hl]at c;go_enter Tryz.func72,Tryz.ntmps72;go_wp2_with fail;refine HT.out.mono ?_
  rintro e w1⟨rfl,rfl⟩
  go_wp2_with fail;go_ret;exact⟨rfl,rfl⟩
theorem live_in (h:StIn w o y S)(hk:S.ok)(hx:S.txs[i]?=some x) :
  Calls Tryz.prog 21 #[ptr y.sb,.int .i64 i] w fun e w'=>e=.returned (.tuple #[.int .i64 (if x.live then (x.start:Int) else 0),.bool x.live])∧w=w':=by
 have HT:=Lib.hid (running_in h hk hx);obtain⟨vt,c⟩:=(h.txs i x hx).cell;clear h hk hx
 cases hl:x.live
 all_goals
  rw[hl]at c HT
  try simp only[if_true,if_false,Bool.false_eq_true]at HT ⊢
  go_enter Tryz.func21,Tryz.ntmps21;go_wp2_with fail;refine HT.out.mono ?_
  rintro e w1⟨rfl,rfl⟩
  go_wp2_with fail;go_ret2;exact⟨rfl,rfl⟩
theorem now_in (h:StIn w o y S) :
  Calls Tryz.prog 23 #[ptr y.sb] w fun e w'=>e=.returned (.int .i64 S.now)∧w=w':=by
 have HC:=Lib.hid (clk_now h.ck);obtain⟨vq,vl,vm,hb,_⟩:=h.blk;unfold stCells at hb;have c:=hb.cell;clear h;go_enter Tryz.func23,Tryz.ntmps23;go_wp2_with fail;refine HC.out.mono ?_
 rintro e w1⟨rfl,rfl⟩
 go_wp2_with fail;go_ret;exact⟨rfl,rfl⟩
theorem owner_any (v:Nat)(hv:v≤2199023255552)(hs:SecOk v)(w:World):Calls Tryz.prog 142 #[.int .u64 v] w fun e w' =>
  e=.returned (.tuple #[.int .i64 (if v%2=1 then ((v/2:Nat):Int) else 0),.int .i64 (if v%2=1 then 0 else ((v/2:Nat):Int)),.bool (decide (v%2=1))])∧w=w':=by
 by_cases h:v%2=1
 ·have h8:=hs h
  have e1:(v:Int)=2*((v/2:Nat):Int)+1:=by omega
  rw[e1,if_pos h,if_pos h,decide_eq_true h];exact owner_held _ ⟨by omega,by omega⟩ w
 ·have e1:(v:Int)=2*((v/2:Nat):Int):=by omega
  rw[e1,if_neg h,if_neg h,decide_eq_false h];exact owner_free _ ⟨by omega,by omega⟩ w
theorem clash_in (h:StIn w o y S)(hk:S.ok)(hx:S.txs[i]?=some x)(p:Nat) :
  Calls Tryz.prog 82 #[ptr y.sb,ptr (y.xb i),.int .i64 p] w fun e w'=>e=.returned (.bool (clashB i x.start (S.H.sec p)))∧Below w.heap.size w w':=by
 have HC:=Lib.hid (s_second h hk p);obtain⟨hs,hv⟩:=hk.sec p;have HO:=Lib.hid (fun w=>owner_any (S.H.sec p) hv hs w)
 obtain⟨vq,vl,vm,hb,_⟩:=h.blk;unfold stCells at hb;have c:=hb.cell;obtain⟨vt,jx,_⟩:=(h.txs i x hx).blk;unfold txCells at jx;unfold clashB;generalize S.H.sec p=v at *;clear h hk hx hs hv;by_cases hv:v%2=1
 ·rw[if_pos hv]
  rw[if_pos hv,if_pos hv,decide_eq_true hv]at HO;have hd:decide (v/2≠i)=decide ((((v/2:Nat):Int))≠(i:Int)):=by
   rw[Bool.eq_iff_iff];simp only[decide_eq_true_eq];omega
  rw[hd];generalize ((v/2:Nat):Int)=q at *;clear hv hd;go_enter Tryz.func82,Tryz.ntmps82;go_wp2_with fail;refine HC.out.mono ?_
  rintro e w1⟨er,rfl,hb1⟩
  have cx:=(jx.below hb1 jx.lt).cell;go_wp2_with fail;refine (HO.out _).mono ?_
  rintro e w2⟨rfl,rfl⟩
  go_wp2_with fail;go_ret;exact⟨by simp[bne,BEq.beq],hb1⟩
 ·rw[if_neg hv]
  rw[if_neg hv,if_neg hv,decide_eq_false hv]at HO;have hd:decide (x.start<v/2)=decide ((x.start:Int)<(((v/2:Nat):Int))):=by
   rw[Bool.eq_iff_iff];simp only[decide_eq_true_eq];omega
  rw[hd];generalize ((v/2:Nat):Int)=q at *;clear hv hd;go_enter Tryz.func82,Tryz.ntmps82;go_wp2_with fail;refine HC.out.mono ?_
  rintro e w1⟨er,rfl,hb1⟩
  have cx:=(jx.below hb1 jx.lt).cell;go_wp2_with fail;refine (HO.out _).mono ?_
  rintro e w2⟨rfl,rfl⟩
  go_wp2_with fail;go_ret;exact⟨rfl,hb1⟩
theorem own_in (h:StIn w o y S)(hk:S.ok)(hx:S.txs[i]?=some x)(p:Nat) :
  Calls Tryz.prog 169 #[ptr y.sb,ptr (y.xb i),.int .i64 p] w fun e w'=>e=.returned (.tuple #[])∧Lft y { S with H:=(S.H.setSecondR p (2*i+1)).1 } o w w':=by
 have h8:=hk.t8;have hi:=(List.getElem?_eq_some_iff.1 hx).1;have HC:=s_setsecond h hk p (2*i+1) (by omega)
 have HO:=Lib.hid (fun w=>held_any i ⟨by omega,by omega⟩ w)
 have ei:((2*i+1:Nat):Int)=2*(i:Int)+1:=by omega
 rw[ei]at HC;generalize (S.H.setSecondR p (2*i+1))=r at *;replace HC:=Lib.hid HC;generalize 2*(i:Int)+1=q at HC HO;obtain⟨vq,vl,vm,hb,_⟩:=h.blk;unfold stCells at hb;have c:=hb.cell;obtain⟨vt,cx⟩:=(h.txs i x hx).cell;clear h hk hx hi h8 ei;go_enter Tryz.func169,Tryz.ntmps169;go_wp2_with fail;refine (HO.out _).mono ?_
 rintro e w1 ⟨rfl,rfl⟩
 go_wp2_with fail;refine HC.out.mono ?_
 rintro e w2 ⟨rfl,hl⟩
 go_wp2_with fail;go_end0;exact⟨rfl,hl⟩
theorem release_in (h:StIn w o y S)(hk:S.ok)(p v:Nat)(hv:v≤1099511627776) :
  Calls Tryz.prog 84 #[ptr y.sb,.int .i64 p,.int .i64 v] w fun e w'=>e=.returned (.tuple #[])∧Lft y { S with H:=(S.H.setSecondR p (2*v)).1 } o w w':=by
 have HC:=s_setsecond h hk p (2*v) (by omega)
 have HO:=Lib.hid (fun w=>free_any v ⟨by omega,by omega⟩ w)
 have ei:((2*v:Nat):Int)=2*(v:Int):=by omega
 rw[ei]at HC;generalize (S.H.setSecondR p (2*v))=r at *;replace HC:=Lib.hid HC;generalize 2*(v:Int)=q at HC HO;obtain⟨vq,vl,vm,hb,_⟩:=h.blk;unfold stCells at hb;have c:=hb.cell;clear h hk hv ei;go_enter Tryz.func84,Tryz.ntmps84;go_wp2_with fail;refine (HO.out _).mono ?_
 rintro e w1 ⟨rfl,rfl⟩
 go_wp2_with fail;refine HC.out.mono ?_
 rintro e w2 ⟨rfl,hl⟩
 go_wp2_with fail;go_end0;exact⟨rfl,hl⟩
def Tx.ended (x:Tx):Tx:={ x with live:=false,log:={ x.log with reads:=[],keeps:=[],holds:=[],undos:=[] },took:=[] }
theorem end_in (h:StIn w o y S)(hx:S.txs[i]?=some x) :
  Calls Tryz.prog 80 #[ptr y.sb,ptr (y.xb i)] w fun e w'=>e=.returned (.tuple #[])∧Lft y (S.tx i x.ended) o w w':=by
 have ht:=h.txs i x hx;obtain⟨vr,vk,vh,vu,hl⟩:=ht.log;have HR:=Lib.hid (log_reset hl);have HI:=Lib.hid h;obtain⟨vt,jx,hrow⟩:=ht.blk;have HRow:=Lib.hid hrow;unfold txCells at jx;have c:=jx.cell;have ob:=ht.ob;clear h hl ht hx hrow;go_enter Tryz.func80,Tryz.ntmps80;go_wp2_with fail;refine HR.out.mono ?_
 rintro e w1 ⟨rfl,hl1,hs1⟩
 have j1:=jx.stp hs1 (by rw[ob];simp)
 clear c jx;have c:=j1.cell;have z:=j1.free;have s:=j1.lt;go_wp2_with fail;go_end0;have hs2:Stp (txTag y i) o o w1 ((w1.setCell ⟨y.xb i,5,none⟩ (.slice none 0 0)).setCell ⟨y.xb i,1,none⟩ (.bool false)):=
  ((Stp.refl _ o w1).setCell (by show txTag y i (o (y.xb i));rw[ob];exact⟨rfl,by simp,by simp⟩) _).setCell (by show txTag y i (o (y.xb i));rw[ob];exact⟨rfl,by simp,by simp⟩) _
 have hs3:Stp (fun t=>t=(y.l.id,16+8*i)) o o w1 ((w1.setCell ⟨y.xb i,5,none⟩ (.slice none 0 0)).setCell ⟨y.xb i,1,none⟩ (.bool false)):=
  ((Stp.refl _ o w1).setCell (by show o (y.xb i)=_;exact ob) _).setCell (by show o (y.xb i)=_;exact ob) _
 have hs:Stp (txTag y i) o o w _:=(hs1.mono (by rintro _ rfl;exact⟨rfl,by simp,by simp⟩)).trans hs2
 exact⟨rfl,o,HI.out.tx ⟨⟨_,(j1.set 5 _).set 1 _,Row.nil _ _ _ _ _⟩,⟨_,_,_,_,hl1.stp hs3 fun j hj=>by simp;omega⟩,ob⟩ hs,hs.mono fun _=>stTag_tx⟩
end
theorem news_blk {w:World}{B:Nat}{cs:Array Value}{t:TypeId}(h:Blk w B cs t):∀ j u,cs.toList[j]?=some u→w.cell? ((⟨B,0,none⟩:Addr).add j)=some u:=fun j u hu=>by
 have hadd:(⟨B,0,none⟩:Addr).add j=⟨B,j,none⟩:=by unfold Addr.add;split<;>simp_all
 rw[hadd,h.cell];simpa using hu
theorem len_ok2 {n b:Nat}(h:n≤4096)(hb:b≤64):n+1≤maxLen∧(n+1)*b≤140737488355328:=by
 constructor
 ·simp only[maxLen];omega
 ·have:(n+1)*b≤4097*64:=Nat.mul_le_mul (by omega) hb
  omega
abbrev unV (u:Un):Value:=.agg #[nv u.kind,nv u.pos,nv u.i,.int .i64 u.old]
section
variable {w : World} {o : Own} {id k b : Nat} {L : Lg} {vr vk vh vu : Value}
theorem log_undo_full (h:LgIn w o id k b L vr vk vh vu)(u:Un)(hm:L.mu≤L.undos.length) :
  Calls Tryz.prog 120 #[.pointer (some ⟨b,0,none⟩),unV u] w fun e w'=>e=.returned (.bool false)∧Below w.heap.size w w':=by
 have j:=h.blk;have c:=h.blk.cell;have s:=h.blk.lt;obtain⟨pa,cp,rfl⟩:=h.ru.slc;have hng:(L.mu:Int)≤(L.undos.length:Int):=by omega
 clear h;go_enter Tryz.func120,Tryz.ntmps120;go_upto_region 1 with fail;go_quiet (fail);go_wp2_with fail;go_ret;exact⟨rfl,bdrewN (balloc (bsame w) _) _⟩
theorem log_undo_room (h:LgIn w o id k b L vr vk vh vu) (hk:L.ok) (u:Un) (hm:L.undos.length<L.mu) :
  Calls Tryz.prog 120 #[.pointer (some ⟨b,0,none⟩),unV u] w fun e w'=>e=.returned (.bool true) ∧
   ∃ vu' o',LgIn w' o' id k b { L with undos:=L.undos++[u] } vr vk vh vu'∧Stp (fun t=>t=(id,k)∨t=(id,k+4)) o o' w w':=by
 have HI:=Lib.hid h;have j:=h.blk;have c:=h.blk.cell;have s:=h.blk.lt;obtain⟨pa,cp,rfl⟩:=h.ru.slc;have hng:(L.undos.length:Int)<(L.mu:Int):=by omega
 have hw:=Lib.hid (len_ok2 (n:=L.undos.length) (b:=32) (by have:=hk.u;have:=hk.mu;omega) (by omega))
 obtain⟨iU,hi,hsI,hyI,hzI⟩:=info_undo;have hu64:=Tryz.underlying212;clear h hk hm;go_enter Tryz.func120,Tryz.ntmps120;go_upto_region 1 with fail;go_quiet (fail);go_upto_region 3 with fail;obtain⟨W,hW⟩:∃ W:World,W=(w.alloc (.cells #[nv u.kind,nv u.pos,nv u.i,.int .i64 u.old] 175)).drewN nq:=⟨_,rfl⟩;rw[←hW];have hbW:Below w.heap.size w W:=by rw[hW];exact bdrewN (balloc (bsame w) _) _
 have jB:Blk W w.heap.size #[nv u.kind,nv u.pos,nv u.i,.int .i64 u.old] 175:=by rw[hW];exact (Blk.new w _ _).drewN _
 have jL:=j.below hbW j.lt;clear hW c s;have cL:=jL.cell;have sL:=jL.lt;have cB:=jB.cell;have sB:=jB.lt;have rn:=(HI.out.ru.below hbW).below (balloc (bdrew (bsame W)) (.cells #[nv u.kind,nv u.pos,nv u.i,.int .i64 u.old] 175));have jn:=Blk.new W.drew #[nv u.kind,nv u.pos,nv u.i,.int .i64 u.old] 175;have hone:=ucells_one [u];have hkeep:=fun (w1:World) (o1:Own) (hst:Stp (fun t=>t=(id,k+4)) o o1 (W.drew.alloc (.cells #[nv u.kind,nv u.pos,nv u.i,.int .i64 u.old] 175)) w1)=>(Blk.alloc (drewB jL) (.cells #[nv u.kind,nv u.pos,nv u.i,.int .i64 u.old] 175)).stp hst (by rw[HI.out.ob];simp)
 have hfin:=Lib.hid (fun (w1:World) (o1:Own) (pa':Option Addr) (cp':Nat) (hown:Row w1 o1 (id,k+4) 175 4 (.slice pa' (L.undos.length+1) cp') (L.undos.length+1) (ucells L.undos++[nv u.kind,nv u.pos,nv u.i,.int .i64 u.old])) (hst:Stp (fun t=>t=(id,k+4)) o o1 (W.drew.alloc (.cells #[nv u.kind,nv u.pos,nv u.i,.int .i64 u.old] 175)) w1) =>
  show ∃ vu' o',LgIn (w1.setCell ⟨b,5,none⟩ (.slice pa' (L.undos.length+1) cp')) o' id k b { L with undos:=L.undos++[u] } vr vk vh vu'∧Stp (fun t=>t=(id,k)∨t=(id,k+4)) o o' w (w1.setCell ⟨b,5,none⟩ (.slice pa' (L.undos.length+1) cp')) from by
   have h:=HI.out;have hlt:b<(W.drew.alloc (.cells #[nv u.kind,nv u.pos,nv u.i,.int .i64 u.old] 175)).heap.size:=(Blk.alloc (drewB jL) _).lt;have ho1:o1 b=(id,k):=by rw[hst.tags b hlt];exact h.ob
   have k1:Stp (fun t=>t=(id,k)) o1 o1 w1 (w1.setCell ⟨b,5,none⟩ (.slice pa' (L.undos.length+1) cp')):=(Stp.refl _ o1 w1).setCell (by simpa using ho1) _
   have S:Stp (fun t=>t=(id,k)∨t=(id,k+4)) o o1 w (w1.setCell ⟨b,5,none⟩ (.slice pa' (L.undos.length+1) cp')):=
    (Stp.of_below (hbW.trans ((balloc (bdrew (bsame W)) _).mono hbW.size))).trans ((hst.mono fun _ e=>Or.inr e).trans (k1.mono fun _ e=>Or.inl e))
   refine⟨_,o1,⟨(hkeep _ _ hst).set 5 _,h.rr.stp S (by simp),h.rk.stp S (by simp),h.rh.stp S (by simp),?_,ho1⟩,S⟩
   have hr:=hown.stp k1 (by simp)
   show Row _ o1 (id,k+4) 175 4 _ (L.undos++[u]).length (ucells (L.undos++[u]));rw[ucells_snoc];simpa using hr)
 go_region_law ((refine step_append_row _ (by rfl) _ _ _ (by rfl) 175 iU _ 4 32 hu64 hi hzI hsI hyI (by rfl) (by decide) o (id,k+4) _ _ _ (by rfl) rn ⟨W.heap.size,0,none⟩ 1 1 [nv u.kind,nv u.pos,nv u.i,.int .i64 u.old] (by rfl) (by rfl) (news_blk jn) hone hw.out.1 hw.out.2 ?_;intro v' w1 hown hst;obtain⟨pa',cp',rfl⟩:=hown.slc;have jX:=hkeep _ _ hst;have cX:=jX.cell;have zX:=jX.free;have sX:=jX.lt))
 all_goals
  go_wp2_with fail;go_ret;exact⟨rfl,hfin.out _ _ _ _ hown hst⟩
end
section
variable {w : World} {o : Own} {id k b : Nat} {L : Lg} {vr vk vh vu : Value}
theorem Row.cell2 {w:World}{o:Own}{t:Tag}{l:List (Nat×Nat)}{g n cap:Nat}(h:Row w o t 131 2 (.slice (some ⟨g,0,none⟩) n cap) n (hcells l))(i:Nat)(x:Nat×Nat)(hx:l[i]?=some x) :
  w.cell? ⟨g,i*2,none⟩=some (nv x.1)∧w.cell? ⟨g,i*2+1,none⟩=some (nv x.2):=by
 have h2:=hcells_at l i x hx;have f:=fun j u hu=>h.own.cells (g:=g) rfl j u hu
 have e:∀ j,(⟨g,0,none⟩:Addr).add j=⟨g,j,none⟩:=fun j=>by unfold Addr.add;split<;>simp_all
 have a1:=f _ _ h2.1;have a2:=f _ _ h2.2;rw[e]at a1 a2;rw[Nat.mul_comm i 2];exact⟨a1,a2⟩
theorem log_hold_room (h:LgIn w o id k b L vr vk vh vu) (hk:L.ok) (p v:Nat) (hp:∀ x ∈ L.holds,x.1≠p) (hm:L.holds.length<L.mu) :
  Calls Tryz.prog 168 #[.pointer (some ⟨b,0,none⟩),.agg #[.int .i64 p,.int .i64 v]] w fun e w'=>e=.returned (.bool true) ∧
   ∃ vh' o',LgIn w' o' id k b { L with holds:=L.holds++[(p,v)] } vr vk vh' vu∧Stp (fun t=>t=(id,k)∨t=(id,k+3)) o o' w w':=by
 have HI:=Lib.hid h;have HP:=Lib.hid hp;have j:=h.blk;have c:=h.blk.cell;have s:=h.blk.lt;obtain⟨pa,cp,rfl⟩:=h.rh.slc;have hng:(L.holds.length:Int)<(L.mu:Int):=by omega
 have hlen:=Lib.hid (show L.holds.length≤200 by have:=hk.h;have:=hk.mu;omega)
 have hw:=Lib.hid (len_ok2 (n:=L.holds.length) (b:=16) (by have:=hk.h;have:=hk.mu;omega) (by omega))
 obtain⟨iU,hi,hsI,hyI,hzI⟩:=info_hold;have hu64:=Tryz.underlying126;clear h hk hm hp;go_enter Tryz.func168,Tryz.ntmps168;go_wp2_with fail;go_loopw [14] (fun ix wr=>∃ i:Nat,ix=.int .i64 i∧i≤L.holds.length∧Below w.heap.size w wr∧Blk wr w.heap.size #[.int .i64 p,.int .i64 v] 131) (fun ix _=>L.holds.length-(intOf ix).toNat)
 case atStart=>exact⟨0,rfl,by omega,balloc (bsame w) _,Blk.new w _ _⟩
 case round =>
  obtain⟨i,rfl,hil,hbr,jB⟩:=hrel;clear c s;have jL:=j.below hbr j.lt;have cL:=jL.cell;have sL:=jL.lt;have cB:=jB.cell;have sB:=jB.lt;have hR:=HI.out.rh.below hbr;by_cases hlt:i<L.holds.length
  ·obtain⟨x,hx⟩:∃ x,L.holds[i]?=some x:=⟨_,List.getElem?_eq_getElem hlt⟩
   have hne:(x.1:Int)≠(p:Int):=by have:=HP.out x (List.mem_of_getElem? hx);omega
   rcases hR.own.2 with ⟨e1,e2⟩|⟨g,cap,cur,e1,_,hg,hn,hc,_⟩
   ·omega
   ·injection e1 with e1 _ e2
    subst e1 e2;obtain⟨c0,c1⟩:=hR.cell2 i x hx;have sg:g<wr.heap.size:=(Array.getElem?_eq_some_iff.1 hg).1;have hI:(i:Int)<(L.holds.length:Int):=by omega
    have hI2:(i:Int)<200:=by have:=hlen.out;omega
    unfold nv at c0 c1;clear hg hR hx hc;go_wp2_with fail;go_roundw
    case rel=>exact⟨i+1,by simp,by omega,balloc hbr _,jB.alloc _⟩
    case measure=>simp[intOf];omega
  ·obtain rfl:i=L.holds.length:=by omega
   go_upto_region 9 with fail;go_quiet (fail);go_upto_region 11 with fail;obtain⟨W,hW⟩:∃ W:World,W=wr.drewN nq:=⟨_,rfl⟩;rw[←hW];have hbW:Below w.heap.size w W:=by rw[hW];exact bdrewN hbr _
   have jB:Blk W w.heap.size #[.int .i64 p,.int .i64 v] 131:=by rw[hW];exact jB.drewN _
   have jL:=j.below hbW j.lt;clear hW hR cL sL cB sB;have cL:=jL.cell;have sL:=jL.lt;have cB:=jB.cell;have sB:=jB.lt;have rn:=(HI.out.rh.below hbW).below (balloc (bdrew (bsame W)) (.cells #[.int .i64 p,.int .i64 v] 131));have jn:=Blk.new W.drew #[.int .i64 p,.int .i64 v] 131;have hone:=hcells_one [(p,v)];have hkeep:=fun (w1:World) (o1:Own) (hst:Stp (fun t=>t=(id,k+3)) o o1 (W.drew.alloc (.cells #[.int .i64 p,.int .i64 v] 131)) w1)=>(Blk.alloc (drewB jL) (.cells #[.int .i64 p,.int .i64 v] 131)).stp hst (by rw[HI.out.ob];simp)
   have hfin:=Lib.hid (fun (w1:World) (o1:Own) (pa':Option Addr) (cp':Nat) (hown:Row w1 o1 (id,k+3) 131 2 (.slice pa' (L.holds.length+1) cp') (L.holds.length+1) (hcells L.holds++[.int .i64 p,.int .i64 v])) (hst:Stp (fun t=>t=(id,k+3)) o o1 (W.drew.alloc (.cells #[.int .i64 p,.int .i64 v] 131)) w1) =>
    show ∃ vh' o',LgIn (w1.setCell ⟨b,4,none⟩ (.slice pa' (L.holds.length+1) cp')) o' id k b { L with holds:=L.holds++[(p,v)] } vr vk vh' vu∧Stp (fun t=>t=(id,k)∨t=(id,k+3)) o o' w (w1.setCell ⟨b,4,none⟩ (.slice pa' (L.holds.length+1) cp')) from by
     have h:=HI.out;have hlt:b<(W.drew.alloc (.cells #[.int .i64 p,.int .i64 v] 131)).heap.size:=(Blk.alloc (drewB jL) _).lt;have ho1:o1 b=(id,k):=by rw[hst.tags b hlt];exact h.ob
     have k1:Stp (fun t=>t=(id,k)) o1 o1 w1 (w1.setCell ⟨b,4,none⟩ (.slice pa' (L.holds.length+1) cp')):=(Stp.refl _ o1 w1).setCell (by simpa using ho1) _
     have S:Stp (fun t=>t=(id,k)∨t=(id,k+3)) o o1 w (w1.setCell ⟨b,4,none⟩ (.slice pa' (L.holds.length+1) cp')):=
      (Stp.of_below (hbW.trans ((balloc (bdrew (bsame W)) _).mono hbW.size))).trans ((hst.mono fun _ e=>Or.inr e).trans (k1.mono fun _ e=>Or.inl e))
     refine⟨_,o1,⟨(hkeep _ _ hst).set 4 _,h.rr.stp S (by simp),h.rk.stp S (by simp),?_,h.ru.stp S (by simp),ho1⟩,S⟩
     have hr:=hown.stp k1 (by simp)
     show Row _ o1 (id,k+3) 131 2 _ (L.holds++[(p,v)]).length (hcells (L.holds++[(p,v)]));rw[hcells_snoc];simpa [nv] using hr)
   go_region_law ((refine step_append_row _ (by rfl) _ _ _ (by rfl) 131 iU _ 2 16 hu64 hi hzI hsI hyI (by rfl) (by decide) o (id,k+3) _ _ _ (by rfl) rn ⟨W.heap.size,0,none⟩ 1 1 [.int .i64 p,.int .i64 v] (by rfl) (by rfl) (news_blk jn) hone hw.out.1 hw.out.2 ?_;intro v' w1 hown hst;obtain⟨pa',cp',rfl⟩:=hown.slc;have jX:=hkeep _ _ hst;have cX:=jX.cell;have zX:=jX.free;have sX:=jX.lt))
   all_goals
    go_wp2_with fail;go_ret;exact⟨rfl,hfin.out _ _ _ _ hown hst⟩
theorem log_hold_full (h:LgIn w o id k b L vr vk vh vu)(hk:L.ok)(p v:Nat)(hp:∀ x ∈ L.holds,x.1≠p)(hm:L.mu≤L.holds.length) :
  Calls Tryz.prog 168 #[.pointer (some ⟨b,0,none⟩),.agg #[.int .i64 p,.int .i64 v]] w fun e w'=>e=.returned (.bool false)∧Below w.heap.size w w':=by
 have HI:=Lib.hid h;have HP:=Lib.hid hp;have j:=h.blk;have c:=h.blk.cell;have s:=h.blk.lt;obtain⟨pa,cp,rfl⟩:=h.rh.slc;have hng:(L.mu:Int)≤(L.holds.length:Int):=by omega
 have hlen:=Lib.hid (show L.holds.length≤200 by have:=hk.h;have:=hk.mu;omega)
 clear h hk hm hp;go_enter Tryz.func168,Tryz.ntmps168;go_wp2_with fail;go_loopw [14](fun ix wr=>∃ i:Nat,ix=.int .i64 i∧i≤L.holds.length∧Below w.heap.size w wr∧Blk wr w.heap.size #[.int .i64 p,.int .i64 v] 131)(fun ix _=>L.holds.length-(intOf ix).toNat)
 case atStart=>exact⟨0,rfl,by omega,balloc (bsame w) _,Blk.new w _ _⟩
 case round =>
  obtain⟨i,rfl,hil,hbr,jB⟩:=hrel;clear c s;have jL:=j.below hbr j.lt;have cL:=jL.cell;have sL:=jL.lt;have cB:=jB.cell;have sB:=jB.lt;have hR:=HI.out.rh.below hbr;by_cases hlt:i<L.holds.length
  ·obtain⟨x,hx⟩:∃ x,L.holds[i]?=some x:=⟨_,List.getElem?_eq_getElem hlt⟩
   have hne:(x.1:Int)≠(p:Int):=by have:=HP.out x (List.mem_of_getElem? hx);omega
   rcases hR.own.2 with ⟨e1,e2⟩|⟨g,cap,cur,e1,_,hg,hn,hc,_⟩
   ·omega
   ·injection e1 with e1 _ e2
    subst e1 e2;obtain⟨c0,c1⟩:=hR.cell2 i x hx;have sg:g<wr.heap.size:=(Array.getElem?_eq_some_iff.1 hg).1;have hI:(i:Int)<(L.holds.length:Int):=by omega
    have hI2:(i:Int)<200:=by have:=hlen.out;omega
    unfold nv at c0 c1;clear hg hR hx hc;go_wp2_with fail;go_roundw
    case rel=>exact⟨i+1,by simp,by omega,balloc hbr _,jB.alloc _⟩
    case measure=>simp[intOf];omega
  ·obtain rfl:i=L.holds.length:=by omega
   go_upto_region 9 with fail;go_quiet (fail);go_wp2_with fail;go_ret;exact⟨rfl,bdrewN hbr _⟩
theorem bound_any (n:Nat)(h:n≤200)(w:World):Calls Tryz.prog 166 #[.int .i64 n] w fun e w'=>e=.returned (.int .i64 n)∧w=w':=by
 have e1:max (n:Int) 0=n:=by omega
 have e2:min (n:Int) 200=n:=by omega
 go_enter Tryz.func166,Tryz.ntmps166;go_wp2_with fail;go_ret;exact⟨rfl,rfl⟩
def Lg.fresh (mr mu:Nat):Lg:=⟨mr,mu,[],[],[],[]⟩
theorem log_new (mr mu:Nat)(h1:mr≤200)(h2:mu≤200)(w:World) :
  Calls Tryz.prog 104 #[.int .i64 mr,.int .i64 mu] w fun e w'=>e=.returned (.pointer (some ⟨w.heap.size,0,none⟩)) ∧
   Blk w' w.heap.size #[.int .i64 mr,.int .i64 mu,.slice none 0 0,.slice none 0 0,.slice none 0 0,.slice none 0 0] 219∧Below w.heap.size w w'∧w'.heap.size=w.heap.size+1:=by
 have H1:=Lib.hid (fun w=>bound_any mr h1 w)
 have H2:=Lib.hid (fun w=>bound_any mu h2 w)
 go_enter Tryz.func104,Tryz.ntmps104;go_wp2_with fail;refine (H1.out _).mono ?_
 rintro e w1 ⟨rfl,rfl⟩
 go_wp2_with fail;refine (H2.out _).mono ?_
 rintro e w1 ⟨rfl,rfl⟩
 go_wp2_with fail;go_ret;exact⟨rfl,Blk.new_at _ _ _ _ _ rfl (by simp),balloc (bsame w) _,by simp⟩
end
theorem run_equalIn_nil_nil {P:Program}(w:World)(d:Nat)(t:TypeId){ps rs:Array TypeId}{b:Bool}(h:P.underlying t=some (.func ps rs b)):(Op.equalIn (d+1) t .nilFunc .nilFunc).run P w=.ok true w:=by simp[Op.equalIn,run_underlying h]
theorem run_equalIn_func_nil {P:Program}(w:World)(d:Nat)(t:TypeId){ps rs:Array TypeId}{b:Bool}(f:Fn)(a c:Array Value)(h:P.underlying t=some (.func ps rs b)):(Op.equalIn (d+1) t (.func f a c) .nilFunc).run P w=.ok false w:=by simp[Op.equalIn,run_underlying h]
theorem run_neq_nil_nil {P:Program}(w:World)(t:TypeId){ps rs:Array TypeId}{b:Bool}(h:P.underlying t=some (.func ps rs b)):(binOp .neq t .nilFunc .nilFunc).run P w=.ok (.bool false) w:=by
 have h1:(Op.equal t .nilFunc .nilFunc).run P w=.ok true w:=run_equalIn_nil_nil w 9999 t h;simp only[binOp];simp[h1]
theorem run_neq_func_nil {P:Program}(w:World)(t:TypeId){ps rs:Array TypeId}{b:Bool}(f:Fn)(a c:Array Value)(h:P.underlying t=some (.func ps rs b)):(binOp .neq t (.func f a c) .nilFunc).run P w=.ok (.bool true) w:=by
 have h1:(Op.equal t (.func f a c) .nilFunc).run P w=.ok false w:=run_equalIn_func_nil w 9999 t f a c h;simp only[binOp];simp[h1]
structure CyIn (w:World)(o:Own)(l:HLay)(cy n:Nat)(rd ls:List Nat):Prop where
 blk:∃ vr vl,Blk w cy #[ptr l.h,phF cy n,vr,vl] 201∧Row w o (l.id,8) 3 1 vr rd.length (rd.map nv)∧Row w o (l.id,9) 3 1 vl ls.length (ls.map nv)
 oc:o cy=(l.id,7)
section
variable {w w' : World} {o o' : Own} {l : HLay} {cy n : Nat} {rd ls : List Nat}
theorem CyIn.stp {T:Tag→Prop}(h:CyIn w o l cy n rd ls)(hs:Stp T o o' w w')(h7:¬T (l.id,7))(h8:¬T (l.id,8))(h9:¬T (l.id,9)):CyIn w' o' l cy n rd ls:=by
 obtain⟨vr,vl,hb,h1,h2⟩:=h.blk;exact⟨⟨vr,vl,hb.stp hs (by rw[h.oc];exact h7),h1.stp hs h8,h2.stp hs h9⟩,(hs.tags _ hb.lt).trans h.oc⟩
theorem CyIn.below (h:CyIn w o l cy n rd ls)(hb:Below w.heap.size w w'):CyIn w' o l cy n rd ls:=h.stp (T:=fun _=>False) (Stp.of_below hb) (fun h=>h) (fun h=>h) fun h=>h
theorem CyIn.lt (h:CyIn w o l cy n rd ls):cy<w.heap.size:=by obtain⟨_,_,hb,_⟩:=h.blk;exact hb.lt
theorem clive_any (h:CyIn w o l cy n rd ls)(hn:n≤2):Calls Tryz.prog 60 #[ptr cy] w fun e w'=>e=.returned (.bool (decide (n≠0)))∧w=w':=by
 obtain⟨vr,vl,hb,_,_⟩:=h.blk;have c:=hb.cell;clear h hb;obtain rfl|rfl|rfl:n=0∨n=1∨n=2:=by omega
 ·have c1:w.cell? ⟨cy,1,none⟩=some .nilFunc:=c 1
  have hne:=run_neq_nil_nil w 23 Tryz.underlying23;clear c;go_enter Tryz.func60,Tryz.ntmps60;go_wp2_with fail;go_ret;exact⟨rfl,rfl⟩
 ·have c1:w.cell? ⟨cy,1,none⟩=some (.func (.func 126) #[ptr cy] #[]):=c 1
  have hne:=run_neq_func_nil w 23 (.func 126) #[ptr cy] #[] Tryz.underlying23;clear c;go_enter Tryz.func60,Tryz.ntmps60;go_wp2_with fail;go_ret;exact⟨rfl,rfl⟩
 ·have c1:w.cell? ⟨cy,1,none⟩=some (.func (.func 190) #[ptr cy] #[]):=c 1
  have hne:=run_neq_func_nil w 23 (.func 190) #[ptr cy] #[] Tryz.underlying23;clear c;go_enter Tryz.func60,Tryz.ntmps60;go_wp2_with fail;go_ret;exact⟨rfl,rfl⟩
theorem at_moved {H:Hp}(h:HpAt w o l H)(hk:H.ok)(p:Nat) :
  Calls Tryz.prog 173 #[ptr l.h,.int .i64 p] w fun e w'=>e=.returned (.int .i64 ((H.moved p).2:Nat))∧∃ o',HpAt w' o' l (H.moved p).1∧Stp (hTag l) o o' w w':=by
 obtain⟨vc,vo,vw,vf,f,hh⟩:=h;refine (moved_any hh hk p).mono ?_
 rintro e w'⟨rfl,vc',f',o',h',hs⟩
 exact⟨rfl,o',⟨vc',vo,vw,vf,f',h'⟩,hs⟩
theorem wrap_both (k n:Nat)(h:k<n)(hn:n≤1099511627776):wrap64 ((k:Int)+1)=(k:Int)+1∧IntKind.i64.wrap ((k:Int)+1)=(k:Int)+1:=by
 have h1:(-9223372036854775808:Int)≤(k:Int)+1∧(k:Int)+1≤9223372036854775807:=by omega
 exact⟨IntWalk.wrap64_in _ h1,IntWalk.i64_in _ h1⟩
theorem wrap_big (k n:Nat)(h:k<n)(hn:n≤8796093022208):wrap64 ((k:Int)+1)=(k:Int)+1∧IntKind.i64.wrap ((k:Int)+1)=(k:Int)+1:=by
 have h1:(-9223372036854775808:Int)≤(k:Int)+1∧(k:Int)+1≤9223372036854775807:=by omega
 exact⟨IntWalk.wrap64_in _ h1,IntWalk.i64_in _ h1⟩
theorem app_big (k n:Nat)(h:k<n)(hn:n≤8796093022208):k+1≤maxLen∧(k+1)*8≤140737488355328:=by
 simp only[maxLen];omega
def hOr (l:HLay)(tg:Tag)(t:Tag):Prop:=hTag l t∨t=tg
theorem cmoved_any {H:Hp}(hH:HpAt w o l H)(hk:H.wf){vp vr vl:Value}(jc:Blk w cy #[ptr l.h,vp,vr,vl] 201)(oc:o cy=(l.id,7)){v:Value}{ps:List Nat}{ta:Tag}(hv:Row w o ta 3 1 v ps.length (ps.map nv))(hp:ps.length≤8796093022208)
  (tg:Tag)(na:¬hTag l ta)(ng:¬hTag l tg)(nag:ta≠tg)(n7:tg≠(l.id,7)) :
  Calls Tryz.prog 127 #[ptr cy,v] w fun e w'=>∃ v' o',e=.returned v'∧HpAt w' o' l (H.movedL ps).1∧Row w' o' tg 3 1 v' ps.length ((H.movedL ps).2.map nv)∧Stp (hOr l tg) o o' w w':=by
 obtain⟨iI,hi,hsI,hyI,hzI⟩:=info_int;have hu64:=Tryz.underlying25;have n7h:¬hTag l (l.id,7):=fun hh=>by have:=hh.2;simp at this
 have HV:=Lib.hid hv;have HJ:=Lib.hid jc;have HH:=Lib.hid hH;have HK:=Lib.hid hk;have HP:=Lib.hid hp;have HO:=Lib.hid oc;have HNA:Hid (¬hOr l tg ta):=fun h=>h.elim na nag
 have HN7:Hid (¬hOr l tg (l.id,7)):=fun h=>h.elim n7h fun e=>n7 e.symm
 obtain⟨pa,cp,rfl⟩:=hv.slc;obtain⟨n',hn'⟩:∃ n',n'=ps.length:=⟨_,rfl⟩;have HN:=Lib.hid hn';rw[←hn']at HV ⊢;clear hv jc hH hk hp oc hn';go_enter Tryz.func127,Tryz.ntmps127;go_wp2_with fail;go_loopw [5,7,10] (fun vv _ ix wr=>∃ (k:Nat)(oo:Own),ix=.int .i64 k∧k≤n'∧HpAt wr oo l (H.movedL (ps.take k)).1∧Row wr oo tg 3 1 vv k ((H.movedL (ps.take k)).2.map nv)∧Stp (hOr l tg) o oo w wr) (fun _ _ ix _=>n'-(intOf ix).toNat)
 case atStart=>exact⟨0,o,rfl,Nat.zero_le _,HH.out,Row.nil _ _ _ _ _,Stp.refl _ _ _⟩
 case round =>
  obtain⟨k,oo,rfl,hkn,hA,hr,hs⟩:=hrel;have jk:=HJ.out.stp hs (by rw[HO.out];exact HN7.out)
  have hvk:=HV.out.stp hs HNA.out;have c:=jk.cell;by_cases hlt:k<n'
  ·have hkI:(k:Int)<(n':Int):=by omega
   obtain⟨x,hx⟩:∃ x,ps[k]?=some x:=⟨_,List.getElem?_eq_getElem (by rw[←HN.out];omega)⟩
   have hsn:=movedL_snoc (ps.take k) x H;rw[←take_snoc_get hx]at hsn;have HSN:=Lib.hid hsn;have hM:=Lib.hid (at_moved hA (Hp.movedL_wf (ps.take k) HK.out).ok x);obtain⟨hw1,hw2⟩:=wrap_big k n' hlt (by rw[HN.out];exact HP.out)
   have hRR:=Lib.hid hr;have HSS:=Lib.hid hs;have hk1:Hid (k+1≤maxLen∧(k+1)*8≤140737488355328):=app_big k n' hlt (by rw[HN.out];exact HP.out)
   obtain⟨pv,cv,rfl⟩:=hr.slc;rcases hvk.form with ⟨_,h0⟩|⟨g,cap,e,hcap⟩
   ·omega
   ·injection e with e1 _ e3
    subst e1 e3;have q0:wr.cell? ⟨g,k,none⟩=some (.int .i64 x):=hvk.cells k _ (by rw[List.getElem?_map,hx];rfl)
    clear hA hr hs hsn hvk hx;generalize H.movedL (ps.take k)=r at *;obtain⟨Hk,lk'⟩:=r;go_wp2_with fail;refine hM.out.mono ?_
    rintro e w3 ⟨rfl,o3,h3,hs3⟩
    have hR3:=Lib.hid (hRR.out.stp hs3 ng);go_wp2_with (first|(at_builtin;refine wpList_append_row _ rfl _ _ _ rfl 3 iI _ 1 8 hu64 hi hzI hsI hyI rfl (by decide) o3 tg _ _ _ rfl (Row.below hR3.out (balloc (bsame w3) _)) ⟨w3.heap.size,0,none⟩ 1 1 [.int .i64 (Hk.moved x).2] rfl rfl (news_one (Blk.new w3 _ _)) one_i64 hk1.out.1 hk1.out.2 ?_;intro v' w8 hown hst)|fail)
    have hb8:=balloc (bsame w3) (.cells #[.int .i64 (Hk.moved x).2] 3);have h8:=h3.stp (Stp.of_below (T:=fun _=>False) hb8) fun _ _ h=>h
    have h9:=h8.stp hst fun j hj e=>ng (by rw[←e];exact⟨rfl,by simp;omega⟩)
    have s9:=((HSS.out.trans (hs3.mono fun _ h=>Or.inl h)).trans (Stp.of_below hb8)).trans (hst.mono fun _ h=>Or.inr h)
    go_roundw
    case rel=>exact⟨k+1,_,by simp,by omega,by rw[HSN.out];exact h9,by rw[HSN.out,map_snoc_nv];exact hown,s9⟩
    case measure=>simp[intOf];omega
  ·obtain rfl:k=n':=by omega
   rw[HN.out,List.take_length]at hA hr;rw[←HN.out]at hr;obtain⟨pv,cv,rfl⟩:=hr.slc;go_wp2_with fail;go_ret;exact⟨_,oo,rfl,hA,hr,hs⟩
end
section
variable {w w' : World} {o o' : Own} {l : HLay} {cy n : Nat} {rd ls : List Nat}
def cyT (l:HLay)(t:Tag):Prop:=t.1=l.id∧(t.2≤7∨t.2=8∨t.2=9)
theorem cyT_h {l:HLay}{t:Tag}(h:hTag l t):cyT l t:=⟨h.1,.inl (by have:=h.2;omega)⟩
theorem at_finals {H:Hp}(h:HpAt w o l H)(hw:H.wf) :
  Calls Tryz.prog 189 #[ptr l.h] w fun e w'=>∃ v o',e=.returned v∧HpAt w' o' l H.finals.1∧Stp (hTag l) o o' w w'∧Row w' o' (bxH l) 3 1 v H.finals.2.length (H.finals.2.map nv):=by
 obtain⟨vc,vo,vw,vf,f,hh⟩:=h;refine (finals_any hh hw).mono ?_
 rintro e w'⟨v,vc',vf',f',o',rfl,h',hs,hr⟩
 exact⟨v,o',rfl,⟨vc',vo,vw,vf',f',h'⟩,hs,hr⟩
theorem at_drop {H:Hp}(h:HpAt w o l H)(hw:H.wf) :
  Calls Tryz.prog 242 #[ptr l.h] w fun e w'=>∃ v o',e=.returned (.tuple #[v,.bool H.drop.2.2])∧HpAt w' o' l H.drop.1∧Stp (hTag l) o o' w w'∧Row w' o' (bxH l) 3 1 v H.drop.2.1.length (H.drop.2.1.map nv):=by
 obtain⟨vc,vo,vw,vf,f,hh⟩:=h;refine (drop_any hh hw).mono ?_
 rintro e w'⟨v,vc',vo',vw',vf',f',o',rfl,h',hs,hr⟩
 exact⟨v,o',rfl,⟨vc',vo',vw',vf',f',h'⟩,hs,hr⟩
theorem len2_ok {n m:Nat}(hn:n≤1099511627776)(hm:m≤1099511627776):n+m≤maxLen∧(n+m)*8≤140737488355328:=by
 simp only[maxLen];omega
theorem csecond_any {H:Hp}(hH:HpAt w o l H)(hw:H.wf)(h:CyIn w o l cy 2 rd ls)(h1:ls.length≤1099511627776)(h2:H.drop.2.1.length≤1099511627776) :
  Calls Tryz.prog 190 #[ptr cy] w fun e w'=>e=.returned (.bool true)∧∃ o',HpAt w' o' l H.drop.1∧CyIn w' o' l cy 0 rd (ls++H.drop.2.1)∧Stp (cyT l) o o' w w':=by
 obtain⟨iI,hi,hsI,hyI,hzI⟩:=info_int;have hu64:=Tryz.underlying25;have n7:¬hTag l (l.id,7):=fun hh=>by have:=hh.2;simp at this
 have n8:¬hTag l (l.id,8):=fun hh=>by have:=hh.2;simp at this
 have n9:¬hTag l (l.id,9):=fun hh=>by have:=hh.2;simp at this
 have HL:=len2_ok h1 h2;have HD:=Lib.hid (at_drop hH hw);obtain⟨vr,vl,jc,hr,hl⟩:=h.blk;have oc:=h.oc;have c:=jc.cell;generalize H.drop=D at *;obtain⟨H',lo,ok⟩:=D;simp only at HD HL ⊢;have HC:=Lib.hid (fun (w5:World)(o5:Own)(hs:Stp (hTag l) o o5 w w5)=>show Blk w5 cy #[ptr l.h,phF cy 2,vr,vl] 201∧o5 cy=(l.id,7)∧Row w5 o5 (l.id,8) 3 1 vr rd.length (rd.map nv)∧Row w5 o5 (l.id,9) 3 1 vl ls.length (ls.map nv) from
  ⟨jc.stp hs (by rw[oc];exact n7),(hs.tags _ jc.lt).trans oc,hr.stp hs n8,hl.stp hs n9⟩)
 obtain⟨pl,cl,rfl⟩:=hl.slc;have HLs:=Lib.hid HL;clear h hH hw hr hl h1 h2 HL;go_enter Tryz.func190,Tryz.ntmps190;go_wp2_with fail;refine HD.out.mono ?_
 rintro e w1 ⟨v,o1,rfl,hH1,hs1,hrow⟩
 obtain⟨pv,cv,rfl⟩:=hrow.slc;obtain⟨j1,oc1,r8,r9⟩:=HC.out _ _ hs1;have HH1:=Lib.hid hH1;have HS1:=Lib.hid hs1;have HR8:=Lib.hid r8;have HJ1:=Lib.hid j1;have HO1:=Lib.hid oc1;clear c jc oc hH1 hs1 r8;have c:=j1.cell;have z:=j1.free;have s:=j1.lt;go_wp2_with (first|(at_builtin;refine wpList_append_rows _ rfl _ _ _ rfl 3 iI _ 1 8 hu64 hi hzI hsI hyI rfl (by decide) o1 (l.id,9) _ ls.length (ls.map nv) rfl r9 o1 (bxH l) _ lo.length (lo.map nv) rfl hrow (nv_one _) HLs.out.1 HLs.out.2 ?_;intro v' w3 hown hst;obtain⟨pa,cp,rfl⟩:=hown.slc;have j3:=HJ1.out.stp hst (by rw[HO1.out];simp);have c3:=j3.cell;have z3:=j3.free;have s3:=j3.lt)|fail)
 have hfin:=Lib.hid (show ∃ o',HpAt ((w3.setCell ⟨cy,3,none⟩ (.slice pa (ls.length+lo.length) cp)).setCell ⟨cy,1,none⟩ .nilFunc) o' l H'∧CyIn ((w3.setCell ⟨cy,3,none⟩ (.slice pa (ls.length+lo.length) cp)).setCell ⟨cy,1,none⟩ .nilFunc) o' l cy 0 rd (ls++lo)∧Stp (cyT l) o o' w ((w3.setCell ⟨cy,3,none⟩ (.slice pa (ls.length+lo.length) cp)).setCell ⟨cy,1,none⟩ .nilFunc) from by
  have o3:ext o1 w1.heap.size (l.id,9) cy=(l.id,7):=(hst.tags _ HJ1.out.lt).trans HO1.out;have k:Stp (fun t=>t=(l.id,7)) (ext o1 w1.heap.size (l.id,9)) (ext o1 w1.heap.size (l.id,9)) w3 ((w3.setCell ⟨cy,3,none⟩ (.slice pa (ls.length+lo.length) cp)).setCell ⟨cy,1,none⟩ .nilFunc):=((Stp.refl _ _ w3).setCell (by show ext o1 w1.heap.size (l.id,9) cy=_;exact o3) _).setCell (by show ext o1 w1.heap.size (l.id,9) cy=_;exact o3) _
  have hs7:∀ j,j≤6→¬(l.id,j)=(l.id,7):=fun j hj=>by simp;omega
  have hs9:∀ j,j≤6→¬(l.id,j)=(l.id,9):=fun j hj=>by simp;omega
  have e1:(ls++lo).length=ls.length+lo.length:=List.length_append;refine⟨_,(HH1.out.stp hst hs9).stp k hs7,⟨⟨vr,.slice pa (ls.length+lo.length) cp,(j3.set 3 _).set 1 _,(HR8.out.stp hst (by simp)).stp k (by simp),?_⟩,o3⟩,
   ((HS1.out.mono fun _ h=>cyT_h h).trans (hst.mono (by rintro _ rfl;exact⟨rfl,.inr (.inr rfl)⟩))).trans (k.mono (by rintro _ rfl;exact⟨rfl,.inl (Nat.le_refl _)⟩))⟩
  rw[e1,List.map_append];exact hown.stp k (by simp))
 go_wp2_with fail;go_ret;exact⟨rfl,hfin.out⟩
theorem cfirst_any {H:Hp}(hH:HpAt w o l H)(hw:H.wf)(h:CyIn w o l cy 1 rd ls)(h1:rd.length≤1099511627776)(h2:H.finals.2.length≤1099511627776) :
  Calls Tryz.prog 126 #[ptr cy] w fun e w'=>e=.returned (.bool false)∧∃ o',HpAt w' o' l H.finals.1∧CyIn w' o' l cy 2 (rd++H.finals.2) ls∧Stp (cyT l) o o' w w':=by
 obtain⟨iI,hi,hsI,hyI,hzI⟩:=info_int;have hu64:=Tryz.underlying25;have hmf:∀ (fn:Fn)(first cap:Array Value)(w:World),(Instr.makeFunc fn first cap).run Tryz.prog w=.ok (.func fn first cap) w:=fun _ _ _ _=>rfl
 have n7:¬hTag l (l.id,7):=fun hh=>by have:=hh.2;simp at this
 have n8:¬hTag l (l.id,8):=fun hh=>by have:=hh.2;simp at this
 have n9:¬hTag l (l.id,9):=fun hh=>by have:=hh.2;simp at this
 have HL:=len2_ok h1 h2;have HD:=Lib.hid (at_finals (hH.stp (T:=fun _=>False) (Stp.of_below (bdrew (bsame w))) fun _ _ h=>h) hw)
 obtain⟨vr,vl,jc,hr,hl⟩:=h.blk;have oc:=h.oc;have c:=jc.cell;have s:=jc.lt;generalize H.finals=D at *;obtain⟨H',fi⟩:=D;simp only at HD HL ⊢;have HC:=Lib.hid (fun (w5:World)(o5:Own)(hs:Stp (hTag l) o o5 w.drew w5)=>show Blk w5 cy #[ptr l.h,phF cy 1,vr,vl] 201∧o5 cy=(l.id,7)∧Row w5 o5 (l.id,8) 3 1 vr rd.length (rd.map nv)∧Row w5 o5 (l.id,9) 3 1 vl ls.length (ls.map nv) from
  ⟨(drewB jc).stp hs (by rw[oc];exact n7),(hs.tags _ jc.lt).trans oc,(hr.below (bdrew (bsame w))).stp hs n8,(hl.below (bdrew (bsame w))).stp hs n9⟩)
 obtain⟨pl,cl,rfl⟩:=hr.slc;have HLs:=Lib.hid HL;have hfin:=Lib.hid (fun (w1:World)(o1:Own)(w3:World)(pa:Option Addr)(cp:Nat)(hH1:HpAt w1 o1 l H')(hs1:Stp (hTag l) o o1 w.drew w1)
   (hown:Row w3 (ext o1 w1.heap.size (l.id,8)) (l.id,8) 3 1 (.slice pa (rd.length+fi.length) cp) (rd.length+fi.length) (rd.map nv++fi.map nv))(hst:Stp (fun u=>u=(l.id,8)) o1 (ext o1 w1.heap.size (l.id,8)) w1 w3) =>
  show ∃ o',HpAt ((w3.setCell ⟨cy,2,none⟩ (.slice pa (rd.length+fi.length) cp)).setCell ⟨cy,1,none⟩ (.func (.func 190) #[ptr cy] #[])) o' l H'∧CyIn ((w3.setCell ⟨cy,2,none⟩ (.slice pa (rd.length+fi.length) cp)).setCell ⟨cy,1,none⟩ (.func (.func 190) #[ptr cy] #[])) o' l cy 2 (rd++fi) ls∧Stp (cyT l) o o' w ((w3.setCell ⟨cy,2,none⟩ (.slice pa (rd.length+fi.length) cp)).setCell ⟨cy,1,none⟩ (.func (.func 190) #[ptr cy] #[])) from by
  obtain⟨j1,oc1,r8,r9⟩:=HC.out _ _ hs1;have o3:ext o1 w1.heap.size (l.id,8) cy=(l.id,7):=(hst.tags _ j1.lt).trans oc1;have j3:=j1.stp hst (by rw[oc1];simp)
  have k:Stp (fun t=>t=(l.id,7)) (ext o1 w1.heap.size (l.id,8)) (ext o1 w1.heap.size (l.id,8)) w3 ((w3.setCell ⟨cy,2,none⟩ (.slice pa (rd.length+fi.length) cp)).setCell ⟨cy,1,none⟩ (.func (.func 190) #[ptr cy] #[])):=((Stp.refl _ _ w3).setCell (by show ext o1 w1.heap.size (l.id,8) cy=_;exact o3) _).setCell (by show ext o1 w1.heap.size (l.id,8) cy=_;exact o3) _
  have hs7:∀ j,j≤6→¬(l.id,j)=(l.id,7):=fun j hj=>by simp;omega
  have hs8:∀ j,j≤6→¬(l.id,j)=(l.id,8):=fun j hj=>by simp;omega
  have e1:(rd++fi).length=rd.length+fi.length:=List.length_append;refine⟨_,(hH1.stp hst hs8).stp k hs7,⟨⟨.slice pa (rd.length+fi.length) cp,vl,(j3.set 2 _).set 1 _,?_,(r9.stp hst (by simp)).stp k (by simp)⟩,o3⟩,
   (((Stp.of_below (bdrew (bsame w))).trans (hs1.mono fun _ h=>cyT_h h)).trans (hst.mono (by rintro _ rfl;exact⟨rfl,.inr (.inl rfl)⟩))).trans (k.mono (by rintro _ rfl;exact⟨rfl,.inl (Nat.le_refl _)⟩))⟩
  rw[e1,List.map_append];exact hown.stp k (by simp))
 clear h hH hw hr hl h1 h2 HL oc;go_enter Tryz.func126,Tryz.ntmps126;go_upto_region 1 with fail;go_region_law (first
  | (refine step_append_rows _ (by rfl) _ _ _ (by rfl) 3 iI _ 1 8 hu64 hi hzI hsI hyI (by rfl) (by decide) o1 (l.id,8) _ rd.length (rd.map nv) (by rfl) r8 o1 (bxH l) _ fi.length (fi.map nv) (by rfl) hrow (nv_one _) HLs.out.1 HLs.out.2 ?_;intro v' w3 hown hst;obtain⟨pa,cp,rfl⟩:=hown.slc;have j3:=j1.stp hst (by rw[oc1];simp);have c3:=j3.cell;have z3:=j3.free;have s3:=j3.lt)
  | (go_simp;go_wp2_with ((go_at_call 189;refine HD.out.mono ?_;rintro e w1 ⟨v,o1,rfl,hH1,hs1,hrow⟩;obtain⟨pv,cv,rfl⟩:=hrow.slc;obtain⟨j1,oc1,r8,r9⟩:=HC.out _ _ hs1;have c1:=j1.cell;have s1:=j1.lt))))
 all_goals
  have HF:=Lib.hid (hfin.out _ _ _ _ _ hH1 hs1 hown hst);go_wp2_with fail;go_ret;exact⟨rfl,HF.out⟩
end
section
variable {w w' : World} {o o' : Own} {l : HLay} {cy n : Nat} {rd ls : List Nat}
theorem at_flip {H:Hp}(h:HpAt w o l H)(hk:H.ok)(hm:H.moving=false) :
  Calls Tryz.prog 125 #[ptr l.h] w fun e w'=>e=.returned (.bool true)∧HpAt w' o l H.flip∧Stp (hTag l) o o w w':=by
 obtain⟨vc,vo,vw,vf,f,hh⟩:=h;refine (flip_any hh hk hm).mono ?_
 rintro e w'⟨rfl,h',hs⟩
 exact⟨rfl,⟨_,_,_,_,_,h'⟩,hs⟩
theorem cmoved_nil {vp vl vr:Value}(jc:Blk w cy #[ptr l.h,vp,vr,vl] 201)(a:Option Addr)(c0:Nat) :
  Calls Tryz.prog 127 #[ptr cy,.slice a 0 c0] w fun e w'=>e=.returned (.slice none 0 0)∧w=w':=by
 have c:=jc.cell;clear jc;go_enter Tryz.func127,Tryz.ntmps127;go_wp2_with fail;go_loopw [5,7,10](fun vv _ ix wr=>vv=.slice none 0 0∧ix=.int .i64 0∧wr=w)(fun _ _ _ _=>0)
 case atStart=>exact⟨rfl,rfl,rfl⟩
 case round =>
  obtain⟨rfl,rfl,rfl⟩:=hrel;go_wp2_with fail;go_ret;exact⟨rfl,rfl⟩
end
section
variable {w w' : World} {o o' : Own} {l : HLay} {cy n : Nat} {rd ls : List Nat}
theorem cready_is {vr vl:Value}(hb:Blk w cy #[ptr l.h,phF cy n,vr,vl] 201)(oc:o cy=(l.id,7))(h1:Row w o (l.id,8) 3 1 vr rd.length (rd.map nv)) :
  Calls Tryz.prog 68 #[ptr cy] w fun e w'=>e=.returned vr∧Row w' o (l.id,8) 3 1 vr rd.length (rd.map nv)∧Blk w' cy #[ptr l.h,phF cy n,.slice none 0 0,vl] 201∧Stp (fun t=>t=(l.id,7)) o o w w':=by
 have hfin:=Lib.hid (show Row (w.setCell ⟨cy,2,none⟩ (.slice none 0 0)) o (l.id,8) 3 1 vr rd.length (rd.map nv)∧Blk (w.setCell ⟨cy,2,none⟩ (.slice none 0 0)) cy #[ptr l.h,phF cy n,.slice none 0 0,vl] 201∧Stp (fun t=>t=(l.id,7)) o o w (w.setCell ⟨cy,2,none⟩ (.slice none 0 0)) from by
  have k:Stp (fun t=>t=(l.id,7)) o o w (w.setCell ⟨cy,2,none⟩ (.slice none 0 0)):=(Stp.refl _ o w).setCell (by show o cy=_;exact oc) _
  exact⟨h1.stp k (by simp),hb.set 2 _,k⟩)
 obtain⟨pa,cp,rfl⟩:=h1.slc;have c:=hb.cell;have z:=hb.free;have s:=hb.lt;clear h1;go_enter Tryz.func68,Tryz.ntmps68;go_wp2_with fail;go_ret;exact⟨rfl,hfin.out⟩
theorem clost_is {vr vl:Value}(hb:Blk w cy #[ptr l.h,phF cy n,vr,vl] 201)(oc:o cy=(l.id,7))(h2:Row w o (l.id,9) 3 1 vl ls.length (ls.map nv)) :
  Calls Tryz.prog 71 #[ptr cy] w fun e w'=>e=.returned vl∧Row w' o (l.id,9) 3 1 vl ls.length (ls.map nv)∧Blk w' cy #[ptr l.h,phF cy n,vr,.slice none 0 0] 201∧Stp (fun t=>t=(l.id,7)) o o w w':=by
 have hfin:=Lib.hid (show Row (w.setCell ⟨cy,3,none⟩ (.slice none 0 0)) o (l.id,9) 3 1 vl ls.length (ls.map nv)∧Blk (w.setCell ⟨cy,3,none⟩ (.slice none 0 0)) cy #[ptr l.h,phF cy n,vr,.slice none 0 0] 201∧Stp (fun t=>t=(l.id,7)) o o w (w.setCell ⟨cy,3,none⟩ (.slice none 0 0)) from by
  have k:Stp (fun t=>t=(l.id,7)) o o w (w.setCell ⟨cy,3,none⟩ (.slice none 0 0)):=(Stp.refl _ o w).setCell (by show o cy=_;exact oc) _
  exact⟨h2.stp k (by simp),hb.set 3 _,k⟩)
 obtain⟨pa,cp,rfl⟩:=h2.slc;have c:=hb.cell;have z:=hb.free;have s:=hb.lt;clear h2;go_enter Tryz.func71,Tryz.ntmps71;go_wp2_with fail;go_ret;exact⟨rfl,hfin.out⟩
theorem cstart_is {H:Hp}(hH:HpAt w o l H)(hw:H.wf)(hm:H.moving=false)(jc:Blk w cy #[ptr l.h,.nilFunc,.slice none 0 0,.slice none 0 0] 201)(oc:o cy=(l.id,7)){v:Value}{ps:List Nat}{ta:Tag}(hv:Row w o ta 3 1 v ps.length (ps.map nv))(hp:ps.length≤8796093022208)
  (tg:Tag)(na:¬cyT l ta)(ng:¬cyT l tg)(nag:ta≠tg) :
  Calls Tryz.prog 62 #[ptr cy,v] w fun e w'=>∃ v' o',e=.returned (.tuple #[v',.bool true])∧HpAt w' o' l (H.flip.movedL ps).1∧Blk w' cy #[ptr l.h,.func (.func 126) #[ptr cy] #[],.slice none 0 0,.slice none 0 0] 201∧Row w' o' tg 3 1 v' ps.length ((H.flip.movedL ps).2.map nv)∧Stp (fun t=>cyT l t∨t=tg) o o' w w':=by
 have hmf:∀ (fn:Fn)(first cap:Array Value)(w:World),(Instr.makeFunc fn first cap).run Tryz.prog w=.ok (.func fn first cap) w:=fun _ _ _ _=>rfl
 have n7:¬hTag l (l.id,7):=fun hh=>by have:=hh.2;simp at this
 have n8:¬hTag l (l.id,8):=fun hh=>by have:=hh.2;simp at this
 have n9:¬hTag l (l.id,9):=fun hh=>by have:=hh.2;simp at this
 have c7:cyT l (l.id,7):=⟨rfl,.inl (Nat.le_refl _)⟩;have c9:cyT l (l.id,9):=⟨rfl,.inr (.inr rfl)⟩;have hwf:H.flip.wf:=Hp.flip_wf hw hm;have c:=jc.cell;have hne:=run_neq_nil_nil w 23 Tryz.underlying23;have HFl:=Lib.hid (at_flip hH hw.ok hm)
 have HMv:=Lib.hid (fun w2 (h2:HpAt w2 o l H.flip)(j2:Blk w2 cy #[ptr l.h,.func (.func 126) #[ptr cy] #[],.slice none 0 0,.slice none 0 0] 201)(v2:Row w2 o ta 3 1 v ps.length (ps.map nv)) =>
  cmoved_any h2 hwf j2 oc v2 hp tg (fun h=>na (cyT_h h)) (fun h=>ng (cyT_h h)) nag (fun e=>ng (by rw[e];exact c7)))
 have H1:=Lib.hid (fun w1 (hs1:Stp (hTag l) o o w w1)(hH1:HpAt w1 o l H.flip)=>show Blk w1 cy #[ptr l.h,.nilFunc,.slice none 0 0,.slice none 0 0] 201∧HpAt (w1.setCell ⟨cy,1,none⟩ (.func (.func 126) #[ptr cy] #[])) o l H.flip ∧
   Blk (w1.setCell ⟨cy,1,none⟩ (.func (.func 126) #[ptr cy] #[])) cy #[ptr l.h,.func (.func 126) #[ptr cy] #[],.slice none 0 0,.slice none 0 0] 201 ∧
   Row (w1.setCell ⟨cy,1,none⟩ (.func (.func 126) #[ptr cy] #[])) o ta 3 1 v ps.length (ps.map nv) ∧
   Stp (cyT l) o o w (w1.setCell ⟨cy,1,none⟩ (.func (.func 126) #[ptr cy] #[])) from by
  have k:Stp (fun t=>t=(l.id,7)) o o w1 (w1.setCell ⟨cy,1,none⟩ (.func (.func 126) #[ptr cy] #[])):=(Stp.refl _ o w1).setCell (by show o cy=_;exact oc) _
  have j1:=jc.stp hs1 (by rw[oc];exact n7)
  exact⟨j1,hH1.stp k fun j hj=>by simp;omega,j1.set 1 _,(hv.stp hs1 fun h=>na (cyT_h h)).stp k (fun e=>na (by rw[e];exact c7)),(hs1.mono fun _ h=>cyT_h h).trans (k.mono (by rintro _ rfl;exact c7))⟩)
 have OC:=Lib.hid oc;have NG:=Lib.hid (show ¬hOr l tg (l.id,7) from fun h=>h.elim n7 fun e=>ng (by rw[←e];exact c7))
 have NT:=Lib.hid (show tg≠(l.id,7) from fun e=>ng (by rw[e];exact c7))
 have C7:=Lib.hid c7;obtain⟨pv,cv,rfl⟩:=hv.slc;generalize ps.length=np at *;generalize H.flip.movedL ps=MV at *;obtain⟨H2,qs⟩:=MV;simp only at HMv ⊢;clear hH hw hm hv hp na ng nag hwf oc jc n7 n8 n9 c7 c9;go_enter Tryz.func62,Tryz.ntmps62;go_wp2_with fail;refine HFl.out.mono ?_
 rintro e w1 ⟨rfl,hH1,hs1⟩
 obtain⟨j1,hH2,j2,hv2,hs2⟩:=H1.out _ hs1 hH1;have c1:=j1.cell;have z1:=j1.free;have s1:=j1.lt;clear c hne;go_upto_region 5 with fail;obtain⟨W2,hW2⟩:∃ W:World,W=w1.setCell ⟨cy,1,none⟩ (.func (.func 126) #[ptr cy] #[]):=⟨_,rfl⟩;rw[←hW2]at hH2 j2 hv2 hs2 ⊢;have HM2:=Lib.hid (HMv.out _ hH2 j2 hv2);clear hW2 j1 c1 z1 s1 hs1 hH1 hH2 hv2 HMv H1;go_wp2_with fail;refine HM2.out.mono ?_
 rintro e w3 ⟨v3,o3,rfl,hH3,hr3,hs3⟩
 obtain⟨p3,c3,rfl⟩:=hr3.slc;have j3:=j2.stp hs3 (by rw[OC.out];exact NG.out)
 have oc3:o3 cy=(l.id,7):=(hs3.tags _ j2.lt).trans OC.out;have HN:=Lib.hid (cmoved_nil j3 none 0)
 have hfin:=Lib.hid (show HpAt (w3.setCell ⟨cy,2,none⟩ (.slice none 0 0)) o3 l H2∧Blk (w3.setCell ⟨cy,2,none⟩ (.slice none 0 0)) cy #[ptr l.h,.func (.func 126) #[ptr cy] #[],.slice none 0 0,.slice none 0 0] 201∧Row (w3.setCell ⟨cy,2,none⟩ (.slice none 0 0)) o3 tg 3 1 (.slice p3 np c3) np (qs.map nv)∧Stp (fun t=>cyT l t∨t=tg) o o3 w (w3.setCell ⟨cy,2,none⟩ (.slice none 0 0)) from by
  have k:Stp (fun t=>t=(l.id,7)) o3 o3 w3 (w3.setCell ⟨cy,2,none⟩ (.slice none 0 0)):=(Stp.refl _ o3 w3).setCell (by show o3 cy=_;exact oc3) _
  exact⟨hH3.stp k fun j hj=>by simp;omega,j3.set 2 _,hr3.stp k NT.out,
   ((hs2.mono fun _ h=>Or.inl h).trans (hs3.mono fun _ h=>h.elim (fun h=>Or.inl (cyT_h h)) Or.inr)).trans (k.mono (by rintro _ rfl;exact Or.inl C7.out))⟩)
 have c:=j3.cell;have z:=j3.free;have s:=j3.lt;clear hH3 hr3 hs3 hs2 j2;go_wp2_with fail;refine HN.out.mono ?_
 rintro e w4 ⟨rfl,rfl⟩
 go_wp2_with fail;go_ret2;exact⟨_,o3,rfl,hfin.out⟩
end
end Go.Proofs.YteehgedabdchcaaGreat
