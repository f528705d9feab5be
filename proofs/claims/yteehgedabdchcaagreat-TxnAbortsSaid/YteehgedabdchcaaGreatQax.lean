import Derived.Test.YteehgedabdchcaaGreatQaw
import Derived.Test.YteehgedabdchcaaGreatQba
import Derived.Test.YteehgedabdchcaaGreatQbf
set_option linter.all false
set_option maxRecDepth 1000000
set_option maxHeartbeats 16000000
namespace Go.Proofs.YteehgedabdchcaaGreat
open Go.RowKit Hp
attribute [local go_sem ↓] Go.wp_at_zero Go.wp_at_succ
structure PlS (w:World)(g off:Nat)(l:List Nat)(c:Nat):Prop where
 cap:l.length≤c
 lt:g<w.heap.size
 at':∀ (j x:Nat),l[j]?=some x→w.cell? ⟨g,off+j,none⟩=some (nv x)
theorem PlS.stp {T:Tag→Prop}{w w':World}{o o':Own}{g off c:Nat}{l:List Nat}(h:PlS w g off l c)(hs:Stp T o o' w w')(ht:¬T (o g)):PlS w' g off l c:=
 ⟨h.cap,Nat.lt_of_lt_of_le h.lt hs.size,fun j x hj=>by
  have:=hs.block g h.lt ht;rw[←h.at' j x hj];simp only[World.cell?,this]⟩
theorem PlS.below {w w':World} {g off c:Nat} {l:List Nat} (h:PlS w g off l c) (hb:Below w.heap.size w w'):PlS w' g off l c:=h.stp (o:=o00) (o':=o00) (T:=fun _=>False) (Stp.of_below hb) fun h=>h
theorem PlS.drop {w:World}{g off c:Nat}{l:List Nat}(h:PlS w g off l c){n:Nat}(hn:n≤l.length) :
  ∃ off',(if c=n then some (⟨g,off,none⟩:Addr) else some ⟨g,off+n,none⟩)=some ⟨g,off',none⟩∧PlS w g off' (l.drop n) (c-n):=by
 by_cases hc:c=n
 ·refine⟨off,if_pos hc,by rw[List.length_drop];have:=h.cap;omega,h.lt,fun j x hj=>?_⟩
  have h1:=h.cap;rw[List.drop_eq_nil_of_le (by omega)]at hj
  simp at hj
 ·refine⟨off+n,if_neg hc,by rw[List.length_drop];have:=h.cap;omega,h.lt,fun j x hj=>?_⟩
  rw[List.getElem?_drop]at hj;rw[Nat.add_assoc];exact h.at' (n+j) x hj
theorem PlS.take {w:World}{g off c:Nat}{l:List Nat}(h:PlS w g off l c){n:Nat}(hn:n≤l.length):PlS w g off (l.take n) c:=
 ⟨by rw[List.length_take];have:=h.cap;omega,h.lt,fun j x hj=>by
  rw[List.getElem?_take]at hj;split at hj
  ·exact h.at' j x hj
  ·cases hj⟩
theorem PlS.intsT {T:Tag→Prop}{w:World}{o:Own}{g off c:Nat}{l:List Nat}(h:PlS w g off l c)(ht:¬T (o g)):IntsT T w o (.slice (some ⟨g,off,none⟩) l.length c) l:=
 ⟨_,_,rfl,fun j x hj=>⟨g,off,rfl,h.lt,ht,h.at' j x hj⟩⟩
section
variable {w w' : World} {o o' : Own} {y : SLay} {S : Stt} {i : Nat}
theorem StIn.cyc (h:StIn w o y S){H':Hp}{n:Nat}{T:Tag→Prop}(hH:HpAt w' o' y.l H')(hc:Blk w' y.cy (cyCells y (phF y.cy n)) 201)(hs:Stp T o o' w w')(hn:∀ j,10≤j→¬T (y.l.id,j)):StIn w' o' y { S with H:=H',ph:=n }:=by
 obtain⟨vq,vl,vm,hb,hr⟩:=h.blk;have hr':=hr.stp hs fun j _ _=>hn j (by omega)
 exact⟨⟨vq,vl,vm,hb.stp hs (by rw[h.os];exact hn _ (by omega)),hr'.1,hr'.2,hr'.3⟩,hc,hH,h.ck.stp hs (by rw[h.oc];exact hn _ (by omega)),h.thr.stp hs (hn _ (by omega)),fun i x hx=>(h.txs i x hx).stp hs fun j _=>hn _ (by omega),(hs.tags _ h.ck.lt).trans h.oc,(hs.tags _ h.lt).trans h.os,(hs.tags _ h.cy.lt).trans h.oy⟩
def Tx.putL (x:Tx)(ps:List Nat):Tx:={ x with log:=x.log.put ps }
def Tx.putT (x:Tx)(ps:List Nat):Tx:={ x with took:=putH x.took ps }
theorem sreplace_any (h:StIn w o y S)(hk:(S.t i).log.fit)(hi:i<S.txs.length){g off c:Nat}{ps:List Nat}(hv:PlS w g off ps c)(hg:(o g).1≠y.l.id)(hn:ps.length=(S.t i).log.roots.length) :
  Calls Tryz.prog 66 #[ptr (y.lb i),.slice (some ⟨g,off,none⟩) ps.length c] w fun e w'=>e=.returned (.bool true)∧∃ o',StIn w' o' y (S.tx i ((S.t i).putL ps))∧Stp (lgTag y.l.id (17+8*i)) o o' w w':=by
 have hx:=h.txs i _ (Stt.t_get hi);obtain⟨vr,vk,vh,vu,hl⟩:=hx.log;obtain⟨vt,hb,hr⟩:=hx.blk;refine (replace_log hl hk (hv.intsT fun ht=>hg ht.1) hn).mono ?_
 rintro e w' ⟨rfl,o',hl',hs⟩
 have ht:∀ t,lgTag y.l.id (17+8*i) t→txTag y i t:=fun t ⟨h1,h2,h3⟩=>⟨h1,by omega,by omega⟩
 have n0:¬lgTag y.l.id (17+8*i) (y.l.id,16+8*i):=fun hh=>by have:=hh.2.1;simp only at this;omega
 have n6:¬lgTag y.l.id (17+8*i) (y.l.id,22+8*i):=fun hh=>by have:=hh.2.2;simp only at this;omega
 exact⟨rfl,o',h.tx (x':=(S.t i).putL ps) ⟨⟨vt,hb.stp hs (by rw[hx.ob];exact n0),hr.stp hs n6⟩,⟨vr,vk,vh,vu,hl'⟩,(hs.tags _ hb.lt).trans hx.ob⟩ (hs.mono ht),hs⟩
theorem splace_any (h:StIn w o y S)(hi:i<S.txs.length){g off c:Nat}{ps:List Nat}(hv:PlS w g off ps c)(hg:(o g).1≠y.l.id)(hn:(S.t i).took.length≤ps.length)(hq:(S.t i).took.length≤1099511627776) :
  ∃ off2 pt ct,Blk w (y.xb i) (txCells i (S.t i) (y.lb i) (.slice pt (S.t i).took.length ct)) 107∧PlS w g off2 (ps.drop (S.t i).took.length) (c-(S.t i).took.length) ∧
  Calls Tryz.prog 64 #[.slice pt (S.t i).took.length ct,.slice (some ⟨g,off,none⟩) ps.length c] w fun e w'=>e=.returned (.slice (some ⟨g,off2,none⟩) (ps.length-(S.t i).took.length) (c-(S.t i).took.length)) ∧
   StIn w' o y (S.tx i ((S.t i).putT ps))∧Stp (fun t=>t=(y.l.id,22+8*i)) o o w w':=by
 have hx:=h.txs i _ (Stt.t_get hi);obtain⟨vr,vk,vh,vu,hl⟩:=hx.log;obtain⟨vt,hb,hr⟩:=hx.blk;obtain⟨pt,ct,rfl⟩:=hr.slc;obtain⟨off2,hoff,hd⟩:=hv.drop hn;refine⟨off2,pt,ct,hb,hd,(place_any hr hn hq hv.cap hv.at' hv.lt fun e=>hg (by rw[e])).mono ?_⟩
 rintro e w' ⟨rfl,hr',hs⟩
 rw[hoff];have ht:∀ t,t=(y.l.id,22+8*i)→txTag y i t:=fun t e=>by rw[e];exact⟨rfl,by simp only;omega,by simp only;omega⟩
 refine⟨rfl,h.tx (x':=(S.t i).putT ps) ⟨⟨_,hb.stp hs (by rw[hx.ob];simp),?_⟩,⟨vr,vk,vh,vu,hl.stp hs fun j hj=>by simp;omega⟩,(hs.tags _ hb.lt).trans hx.ob⟩ (hs.mono ht),hs⟩
 show Row w' o _ _ 2 _ (putH (S.t i).took ps).length (hcells (putH (S.t i).took ps));rw[putH_len];exact hr'
theorem sqplace_any (h:StIn w o y S){g off c:Nat}{ps:List Nat}(hv:PlS w g off ps c)(hg:(o g).1≠y.l.id)(hn:S.queue.length≤ps.length)(hq:S.queue.length≤1099511627776) :
  ∃ off2 pt ct vl vm,Blk w y.sb (stCells y S (.slice pt S.queue.length ct) vl vm) 101∧PlS w g off2 (ps.drop S.queue.length) (c-S.queue.length) ∧
  Calls Tryz.prog 64 #[.slice pt S.queue.length ct,.slice (some ⟨g,off,none⟩) ps.length c] w fun e w'=>e=.returned (.slice (some ⟨g,off2,none⟩) (ps.length-S.queue.length) (c-S.queue.length)) ∧
   StIn w' o y { S with queue:=putH S.queue ps }∧Stp (fun t=>t=(y.l.id,13)) o o w w':=by
 obtain⟨vq,vl,vm,hb,hr⟩:=h.blk;have hrq:=hr.q;obtain⟨pt,ct,rfl⟩:=hrq.slc;obtain⟨off2,hoff,hd⟩:=hv.drop hn;refine⟨off2,pt,ct,vl,vm,hb,hd,(place_any hrq hn hq hv.cap hv.at' hv.lt fun e=>hg (by rw[e])).mono ?_⟩
 rintro e w' ⟨rfl,hr',hs⟩
 rw[hoff];have ht:∀ t,t=(y.l.id,13)→ownTag y t:=fun t e=>by rw[e];exact⟨rfl,.inr (.inl rfl)⟩
 refine⟨rfl,h.own (S':={ S with queue:=putH S.queue ps }) rfl rfl rfl rfl rfl (vq:=.slice pt S.queue.length ct) (hb.stp hs (by rw[h.os];simp)) ⟨?_,hr.l.stp hs (by simp),hr.m.stp hs (by simp)⟩ (hs.mono ht),hs⟩
 show Row w' o _ _ 2 _ (putH S.queue ps).length (hcells (putH S.queue ps));rw[putH_len];exact hr'
def Stt.upto (S:Stt)(g:Nat→Nat)(k:Nat):Stt:={ S with queue:=at1 g S.queue,txs:=(S.txs.take k).map (Tx.at' g)++S.txs.drop k }
theorem upto_len (S:Stt)(g:Nat→Nat)(k:Nat):(S.upto g k).txs.length=S.txs.length:=by
 unfold Stt.upto;simp only[List.length_append,List.length_map,List.length_take,List.length_drop];omega
theorem upto_t (S:Stt)(g:Nat→Nat){k:Nat}(hk:k<S.txs.length):(S.upto g k).t k=S.t k:=by
 have e:((S.txs.take k).map (Tx.at' g)).length=k:=by rw[List.length_map,List.length_take];omega
 unfold Stt.t Stt.upto;simp only[List.getD_eq_getElem?_getD];rw[List.getElem?_append_right (by omega),e,Nat.sub_self,List.getElem?_drop,Nat.add_zero]
theorem upto_zero (S:Stt)(g:Nat→Nat):S.upto g 0={ S with queue:=at1 g S.queue }:=by unfold Stt.upto;simp
theorem upto_all (S:Stt)(g:Nat→Nat):S.upto g S.txs.length=S.at' g:=by unfold Stt.upto Stt.at';rw[List.take_length,List.drop_length,List.append_nil]
theorem upto_succ (S:Stt)(g:Nat→Nat){k:Nat}(hk:k<S.txs.length):S.upto g (k+1)=(S.upto g k).tx k ((S.t k).at' g):=by
 have e:((S.txs.take k).map (Tx.at' g)).length=k:=by rw[List.length_map,List.length_take];omega
 have e2:S.txs.drop k=S.t k::S.txs.drop (k+1):=by rw[List.drop_eq_getElem_cons hk];congr 1;have:=Stt.t_get hk;rw[List.getElem?_eq_getElem hk]at this;injection this
 unfold Stt.tx Stt.upto;congr 1;simp only;rw[e2,List.set_append_right _ _ (by omega),e,Nat.sub_self,List.set_cons_zero,List.take_add_one,Stt.t_get hk,List.map_append,List.append_assoc]
 rfl
theorem at_split (x:Tx)(g:Nat→Nat)(l:List Nat):((x.putL (x.log.roots.map g)).putT ((x.took.map (·.1)).map g++l))=x.at' g:=by
 unfold Tx.putL Tx.putT Tx.at';simp only[put_map,putH_map]
def txR (ts:List Tx)(k:Nat):List Nat:=(ts.drop k).flatMap Tx.places
theorem txR_succ {S:Stt}{k:Nat}(hk:k<S.txs.length):txR S.txs k=(S.t k).log.roots++((S.t k).took.map (·.1)++txR S.txs (k+1)):=by
 have e2:S.txs.drop k=S.t k::S.txs.drop (k+1):=by rw[List.drop_eq_getElem_cons hk];congr 1;have:=Stt.t_get hk;rw[List.getElem?_eq_getElem hk]at this;injection this
 unfold txR;rw[e2,List.flatMap_cons];unfold Tx.places;rw[List.append_assoc]
end
theorem fresh_tag (o:Own):∀ n:Nat,∃ N,∀ b,b<n→(o b).1<N
 | 0=>⟨0,fun b h=>by omega⟩
 | n+1=>by
  obtain⟨N,hN⟩:=fresh_tag o n;refine⟨N+(o n).1+1,fun b hb=>?_⟩
  by_cases h:b=n
  ·rw[h];omega
  ·have:=hN b (by omega);omega
theorem Stp.shrink {T U:Tag→Prop}{o o':Own}{w w':World}(h:Stp U o o' w w')(ht:∀ b,b<w.heap.size→U (o b)→T (o b)):Stp T o o' w w':=
 ⟨h.os,h.tape,h.output,h.size,h.tags,fun b hb hn=>h.block b hb fun hu=>hn (ht b hb hu)⟩
theorem Row.takeN {w:World}{o:Own}{t:Tag}{e:TypeId}{g n cap:Nat}{xs:List Value}(h:Row w o t e 1 (.slice (some ⟨g,0,none⟩) n cap) n xs){k:Nat}(hk:k≤n):Row w o t e 1 (.slice (some ⟨g,0,none⟩) k cap) k (xs.take k):=by
 refine⟨?_,h.tag⟩;have h1:=h.own.1;rcases h.own.2 with ⟨h',_⟩|⟨g',cap',cur,h',hb,hg,hn,hc,hs,ht⟩
 ·simp at h'
 ·simp only[Value.slice.injEq,Option.some.injEq,Addr.mk.injEq,and_true,true_and]at h'
  obtain⟨rfl,rfl⟩:=h';refine⟨by rw[List.length_take];omega,.inr ⟨g,cap,cur,rfl,hb,hg,by omega,hc,hs,?_⟩⟩
  rw[←ht,List.take_take];congr 1;omega
theorem Row.plS {w:World}{o:Own}{t:Tag}{e:TypeId}{g cap:Nat}{l:List Nat}(h:Row w o t e 1 (.slice (some ⟨g,0,none⟩) l.length cap) l.length (l.map nv)):PlS w g 0 l cap:=by
 rcases h.shape with ⟨h',_⟩|⟨g',cap',h',hn,_⟩
 ·simp at h'
 ·simp only[Value.slice.injEq,Option.some.injEq,Addr.mk.injEq,and_true,true_and]at h'
  obtain⟨rfl,rfl⟩:=h';exact⟨hn,h.blt,fun j x hj=>by rw[Nat.zero_add];exact h.cells j _ (by rw[List.getElem?_map,hj];rfl)⟩
section
variable {w w' : World} {o o' : Own} {y : SLay} {S : Stt} {i : Nat}
theorem StIn.cyIn (h:StIn w o y S):CyIn w o y.l y.cy S.ph [] []:=⟨⟨_,_,h.cy,Row.nil _ _ _ _ _,Row.nil _ _ _ _ _⟩,h.oy⟩
theorem collect_live (h:StIn w o y S)(hk:S.ok)(h0:S.ph≠0)(a:Option Addr)(n c:Nat) :
  Calls Tryz.prog 18 #[ptr y.sb,.slice a n c] w fun e w'=>e=.returned (.tuple #[.slice none 0 0,.bool false])∧w=w':=by
 have HL:=Lib.hid (clive_any h.cyIn hk.ph.1);rw[decide_eq_true h0]at HL;obtain⟨vq,vl,vm,jb,_⟩:=h.blk;unfold stCells at jb;have c':=jb.cell;clear h hk h0;go_enter Tryz.func18,Tryz.ntmps18;go_wp2_with fail;refine HL.out.mono ?_
 rintro e w1⟨rfl,rfl⟩
 go_wp2_with fail;go_ret2;exact⟨rfl,rfl⟩
def rootOk (H:Hp)(r:Nat):Bool:=decide (r=0)||(lk H.cur r).isSome
theorem collect_bad (h:StIn w o y S)(hk:S.ok)(h0:S.ph=0){v:Value}{ps:List Nat}{ta:Tag}(hv:Row w o ta 3 1 v ps.length (ps.map nv))(hp:ps.length≤100000)(hb:ps.all (rootOk S.H)=false) :
  Calls Tryz.prog 18 #[ptr y.sb,v] w fun e w'=>e=.returned (.tuple #[.slice none 0 0,.bool false])∧Below w.heap.size w w':=by
 have HL:=Lib.hid (clive_any h.cyIn hk.ph.1);rw[show decide (S.ph≠0)=false from by rw[h0];rfl]at HL
 have HH:=Lib.hid (fun (w2:World)(hb:Below w.heap.size w w2)(p:Nat)=>s_here (h.below hb) hk p)
 obtain⟨vq,vl,vm,jb,_⟩:=h.blk;unfold stCells at jb;obtain⟨pv,cv,rfl⟩:=hv.slc;have HV:=Lib.hid hv;have HJ:=Lib.hid jb;have HB:=Lib.hid hb;obtain⟨H,hHe⟩:∃ H,H=S.H:=⟨_,rfl⟩;rw[←hHe]at HH HB;obtain⟨n,hn⟩:∃ n,n=ps.length:=⟨_,rfl⟩;rw[←hn]at HV hp ⊢;have HN:=Lib.hid hn;have c':=jb.cell;generalize S.next=N at *;generalize S.holder=N1 at *;generalize S.version=N2 at *;clear h hk h0 hv hb jb hHe hn;go_enter Tryz.func18,Tryz.ntmps18;go_wp2_with fail;refine HL.out.mono ?_
 rintro e w1 ⟨rfl,rfl⟩
 go_wp2_with fail;clear c';go_loopw [25](fun ix wr=>∃ k:Nat,ix=.int .i64 k∧k≤n∧(ps.take k).all (rootOk H)=true∧Below w.heap.size w wr)(fun ix _=>n-(intOf ix).toNat)
 case atStart=>exact⟨0,rfl,Nat.zero_le _,rfl,bsame w⟩
 case round =>
  obtain⟨k,rfl,hkn,hall,hb⟩:=hrel;obtain⟨wo,rfl⟩:∃ wo:World,wo=wr:=⟨_,rfl⟩;have c':=(HJ.out.below hb HJ.out.lt).cell;by_cases hlt:k<n
  ·have hkI:(k:Int)<(n:Int):=by omega
   obtain⟨x,hx⟩:∃ x,ps[k]?=some x:=⟨_,List.getElem?_eq_getElem (by rw[←HN.out];exact hlt)⟩
   obtain⟨g,cap,e,hcell⟩:∃ g cap,Value.slice pv n cv=.slice (some ⟨g,0,none⟩) n cap∧wo.cell? ⟨g,k,none⟩=some (.int .i64 x):=by
    rcases (HV.out.below hb).form with ⟨_,h0⟩|⟨g,cap,e,_⟩
    ·omega
    ·injection e with e1 _ e3
     subst e1 e3;exact⟨g,cv,rfl,(HV.out.below hb).cells k _ (by rw[List.getElem?_map,hx];rfl)⟩
   injection e with e1 _ e3;subst e1 e3;have htk:(ps.take (k+1)).all (rootOk H)=((ps.take k).all (rootOk H)&&rootOk H x):=by rw[List.take_add_one,hx,List.all_append];simp
   have HTK:=Lib.hid htk;have HC:=Lib.hid (HH.out wo hb x);have HAL:=Lib.hid hall;obtain⟨hw1,hw2⟩:=wrap_nat k (by omega)
   by_cases hx0:x=0
   ·subst hx0
    have hxb:(((0:Nat):Int) != 0)=false:=rfl;clear hx hall htk;go_wp2_with fail;go_roundw
    case rel=>exact⟨k+1,by simp,by omega,by rw[HTK.out,HAL.out];rfl,hb⟩
    case measure=>simp[intOf];omega
   ·have hxb:((x:Int) != 0)=true:=by rw[bne_iff_ne];omega
    cases hs:(lk H.cur x).isSome with
    | true =>
     rw[hs]at HC;have hro:rootOk H x=true:=by unfold rootOk;rw[hs,Bool.or_true]
     have HRO:=Lib.hid hro;clear hx hall htk hs hx0 hro;go_wp2_with fail;refine HC.out.mono ?_
     rintro e w3 ⟨rfl,hb3⟩
     go_wp2_with fail;go_roundw
     case rel=>exact⟨k+1,by simp,by omega,by rw[HTK.out,HAL.out,HRO.out];rfl,btrans hb hb3⟩
     case measure=>simp[intOf];omega
    | false =>
     rw[hs]at HC;clear hx hall htk hs hx0;go_wp2_with fail;refine HC.out.mono ?_
     rintro e w3 ⟨rfl,hb3⟩
     go_wp2_with fail;go_ret2;exact⟨rfl,btrans hb hb3⟩
  ·exfalso
   have h1:k=n:=by omega
   rw[h1,HN.out,List.take_length]at hall;have:=HB.out;rw[hall]at this
   cases this
end
theorem ints09_any {w:World}{o1 o2:Own}{t1 t2:Tag}{e1 e2:TypeId}{va vb:Value}{l:List Int}(ha:Row w o1 t1 e1 1 va l.length (l.map zv))(hb:Row w o2 t2 e2 1 vb l.length (l.map zv))(hn:l.length≤1099511627776) :
  Calls Tryz.prog 74 #[va,vb] w fun e w'=>e=.returned (.bool true)∧Below w.heap.size w w':=by
 obtain⟨pa,ca,rfl⟩:=ha.slc;obtain⟨pb,cb,rfl⟩:=hb.slc;have HA:=Lib.hid ha;have HB:=Lib.hid hb;obtain⟨n,hnn⟩:∃ n,n=l.length:=⟨_,rfl⟩;rw[←hnn]at HA HB hn ⊢;have HN:=Lib.hid hnn;have HL:=Lib.hid hn;clear ha hb hnn hn;go_enter Tryz.func74,Tryz.ntmps74;go_wp2_with fail;go_loopw [5](fun ix wr=>∃ k:Nat,ix=.int .i64 k∧k≤n∧Below w.heap.size w wr)(fun ix _=>n-(intOf ix).toNat)
 case atStart=>exact⟨0,rfl,Nat.zero_le _,bsame w⟩
 case round =>
  obtain⟨k,rfl,hkn,hb⟩:=hrel;by_cases hlt:k<n
  ·have hkI:(k:Int)<(n:Int):=by omega
   obtain⟨hw1,hw2⟩:=wrap_both k n hlt HL.out;obtain⟨x,hx⟩:∃ x,l[k]?=some x:=⟨_,List.getElem?_eq_getElem (by rw[←HN.out];exact hlt)⟩
   obtain⟨ga,ea,hca,q⟩:∃ g,pa=some ⟨g,0,none⟩∧n≤ca∧wr.cell? ⟨g,k,none⟩=some (.int .i64 x):=by
    rcases (HA.out.below hb).form with ⟨_,h0⟩|⟨g,cap,e,hcap,_⟩
    ·omega
    ·injection e with e1 _ e3
     subst e1 e3;exact⟨g,rfl,hcap,(HA.out.below hb).cells k _ (by rw[List.getElem?_map,hx];rfl)⟩
   obtain⟨gb,eb,hcb,r⟩:∃ g,pb=some ⟨g,0,none⟩∧n≤cb∧wr.cell? ⟨g,k,none⟩=some (.int .i64 x):=by
    rcases (HB.out.below hb).form with ⟨_,h0⟩|⟨g,cap,e,hcap,_⟩
    ·omega
    ·injection e with e1 _ e3
     subst e1 e3;exact⟨g,rfl,hcap,(HB.out.below hb).cells k _ (by rw[List.getElem?_map,hx];rfl)⟩
   subst ea eb;clear hx;go_upto_region 6 with fail;go_region;go_wp2_with fail;go_roundw
   case rel=>exact⟨k+1,by simp,hlt,by first|exact hb|exact bdrew hb⟩
   case measure=>clear hw1 hw2;simp[intOf];omega
  ·obtain rfl:k=n:=by omega
   go_wp2_with fail;go_ret;exact⟨rfl,hb⟩
noncomputable def regSa (n:Nat):Code:=((Tryz.f22.body.bind (codeReg n)).getD .skip)
abbrev SSa (ga gb k n cpa cpb:Nat)(s0 s1 s2:Int)(s3 s4 s5:Bool)(pa qa pb qb:Option Addr)(na ma ca da cb db:Nat)(w':World):Prop:=w'.cell? ⟨ga,k*8,none⟩=some (.int .i64 s0)∧w'.cell? ⟨ga,k*8+1,none⟩=some (.int .i64 s1)∧w'.cell? ⟨ga,k*8+2,none⟩=some (.int .i64 s2)∧w'.cell? ⟨ga,k*8+3,none⟩=some (.bool s3)∧w'.cell? ⟨ga,k*8+4,none⟩=some (.bool s4)∧w'.cell? ⟨ga,k*8+5,none⟩=some (.bool s5)∧w'.cell? ⟨ga,k*8+6,none⟩=some (.slice pa na ca)∧w'.cell? ⟨ga,k*8+7,none⟩=some (.slice qa ma da)∧w'.cell? ⟨gb,k*8,none⟩=some (.int .i64 s0)∧w'.cell? ⟨gb,k*8+1,none⟩=some (.int .i64 s1)∧w'.cell? ⟨gb,k*8+2,none⟩=some (.int .i64 s2)∧w'.cell? ⟨gb,k*8+3,none⟩=some (.bool s3)∧w'.cell? ⟨gb,k*8+4,none⟩=some (.bool s4)∧w'.cell? ⟨gb,k*8+5,none⟩=some (.bool s5)∧w'.cell? ⟨gb,k*8+6,none⟩=some (.slice pb na cb)∧w'.cell? ⟨gb,k*8+7,none⟩=some (.slice qb ma db)
theorem same_r6 (Q:Exit→Act→World→Prop)(W:World)(ga gb k n cpa cpb:Nat)(s0 s1 s2:Int)(s3 s4 s5:Bool)(pa qa pb qb:Option Addr)(na ma ca da cb db:Nat){u2 u3 u4 u6 u7 u8 u9 u10 u11 u12 u13 u14 u15 u16 u17 u18 u19 u20 u21 u22 u23 u24 u25 u26 u27 u28 u29 u30 u31 u32 u33 u34 u35 u36 u37 u38 u39 u40 u41 u42 u43 u44 u45 u46 u47 u48 u49 u50 u51 u52 u53 u54 u55 u56 u57 u58 u59 u60 u61 u62 u63 u64 u65 u66 u67 u68 u69 u70 u71 u72 u73 u74 u75 u76 u77 u78 u79 u80 u81:Value}(hk:k<n)(hca:n≤cpa)(hcb:n≤cpb)
  (hS:∀ w':World,Below W.heap.size W w'→SSa ga gb k n cpa cpb s0 s1 s2 s3 s4 s5 pa qa pb qb na ma ca da cb db w')
  (hC:∀ X:World,Below W.heap.size W X→Calls Tryz.prog 74 #[.slice pa na ca,.slice pb na cb] X fun e w'=>e=.returned (.bool true)∧Below X.heap.size X w')
  (hD:∀ X:World,Below W.heap.size W X→Calls Tryz.prog 74 #[.slice qa ma da,.slice qb ma db] X fun e w'=>e=.returned (.bool true)∧Below X.heap.size X w')
  (hpan:∀ c d x a w,Q (.panic c) (a.put d x) w→Q (.panic c) a w)
  (hexit:∀ (X:World)(z17 z18 z19 z20 z21 z22 z23 z24 z25 z26 z27 z28 z29 z30 z31 z32 z33 z34 z35 z36 z37 z38 z39 z40 z41 z42 z43 z44 z45 z46 z47 z48 z49 z50 z51 z52 z53 z54 z55 z56 z57 z58 z59 z60 z61 z62 z63 z64 z65 z66 z67 z68 z69 z70 z71 z72 z73 z74 z75 z76 z77 z78 z79 z80:Value),Below W.heap.size W X→Q .normal ⟨#[.slice (some ⟨ga,0,none⟩) n cpa,.slice (some ⟨gb,0,none⟩) n cpb,u2,u3,u4,.int .i64 k,u6,u7,u8,u9,u10,u11,u12,u13,u14,u15,u16,z17,z18,z19,z20,z21,z22,z23,z24,z25,z26,z27,z28,z29,z30,z31,z32,z33,z34,z35,z36,z37,z38,z39,z40,z41,z42,z43,z44,z45,z46,z47,z48,z49,z50,z51,z52,z53,z54,z55,z56,z57,z58,z59,z60,z61,z62,z63,z64,z65,z66,z67,z68,z69,z70,z71,z72,z73,z74,z75,z76,z77,z78,z79,z80,.bool false],[]⟩ X) :
  Code.wp Tryz.prog (regSa 6) Q ⟨#[.slice (some ⟨ga,0,none⟩) n cpa,.slice (some ⟨gb,0,none⟩) n cpb,u2,u3,u4,.int .i64 k,u6,u7,u8,u9,u10,u11,u12,u13,u14,u15,u16,u17,u18,u19,u20,u21,u22,u23,u24,u25,u26,u27,u28,u29,u30,u31,u32,u33,u34,u35,u36,u37,u38,u39,u40,u41,u42,u43,u44,u45,u46,u47,u48,u49,u50,u51,u52,u53,u54,u55,u56,u57,u58,u59,u60,u61,u62,u63,u64,u65,u66,u67,u68,u69,u70,u71,u72,u73,u74,u75,u76,u77,u78,u79,u80,u81],[]⟩ W:=by
 conv=>arg 2;whnf
 dsimp only;simp only[List.append_eq,List.cons_append,List.nil_append];have HX:=Lib.hid hexit;have HC:=Lib.hid hC;have HD:=Lib.hid hD;have HSX:=Lib.hid hS;have kI:(k:Int)<(n:Int):=by omega
 clear hexit hC hD hS;refine wp_region_late (SSa ga gb k n cpa cpb s0 s1 s2 s3 s4 s5 pa qa pb qb na ma ca da cb db) 65 (by kernel_rfl) ?_
 have HS:=HSX.out W.drew (bdrew (bsame W));refine wpAnyT_takes (by kernel_rfl) hpan [0,1,2,3,4,5,6,7,8,9,10,11,12,13,14,15,16,17,18,19,20,21,22,23,24,25,26,27,28,29,30,31,32,33,34,35,36,37,38,39,40,41,42,43,44,45,46,47] (by kernel_rfl) (by decide) HS ?_
 iterate 48 (refine tkc (v:=?_) rfl ?_ ?_;rotate_left;(· (refine Or.inl ⟨by rfl,?_⟩;rintro w' ⟨h0,h1,h2,h3,h4,h5,h6,h7,h8,h9,h10,h11,h12,h13,h14,h15⟩;go_simp;try with_reducible rfl));simp only[List.getElem_toArray,List.getElem_cons_succ,List.getElem_cons_zero,Act.put,List.setIfInBounds_toArray,List.set_cons_zero,List.set_cons_succ])
 refine tkn ?_;refine wpAnyT_step (i:=48) (by kernel_rfl) rfl fun K hK=>?_
 go_simp;refine (HC.out W.drew (bdrew (bsame W))).mono ?_
 rintro e w5 ⟨rfl,hb5⟩
 have hbA:=btrans (bdrew (bsame W)) hb5;refine hK.out _ _ (fun _=>HSX.out w5 hbA) ?_
 clear hK K
 try simp only[Act.put,List.setIfInBounds_toArray,List.set_cons_zero,List.set_cons_succ]
 refine wpAnyT_takes (by kernel_rfl) hpan [49,50,51,52,53,54,55,56,57,58,59,60,61] (by kernel_rfl) (by decide) (HSX.out w5 hbA) ?_
 iterate 13 (refine tkc (v:=?_) rfl ?_ ?_;rotate_left;(· (refine Or.inl ⟨by rfl,?_⟩;rintro w' ⟨h0,h1,h2,h3,h4,h5,h6,h7,h8,h9,h10,h11,h12,h13,h14,h15⟩;go_simp;try with_reducible rfl));simp only[List.getElem_toArray,List.getElem_cons_succ,List.getElem_cons_zero,Act.put,List.setIfInBounds_toArray,List.set_cons_zero,List.set_cons_succ])
 refine tkn ?_;refine wpAnyT_step (i:=62) (by kernel_rfl) rfl fun K hK=>?_
 go_simp;refine (HD.out w5 hbA).mono ?_
 rintro e w6 ⟨rfl,hb6⟩
 have hbB:=btrans hbA hb6;refine hK.out _ _ (fun _=>HSX.out w6 hbB) ?_
 clear hK K
 try simp only[Act.put,List.setIfInBounds_toArray,List.set_cons_zero,List.set_cons_succ]
 refine wpAnyT_takes (by kernel_rfl) hpan [63,64] (by kernel_rfl) (by decide) (HSX.out w6 hbB) ?_
 iterate 2 (refine tkc (v:=?_) rfl ?_ ?_;rotate_left;(· (refine Or.inl ⟨by rfl,?_⟩;rintro w' ⟨h0,h1,h2,h3,h4,h5,h6,h7,h8,h9,h10,h11,h12,h13,h14,h15⟩;go_simp;try with_reducible rfl));simp only[List.getElem_toArray,List.getElem_cons_succ,List.getElem_cons_zero,Act.put,List.setIfInBounds_toArray,List.set_cons_zero,List.set_cons_succ])
 refine tkn ?_;refine wpAnyT_done (by kernel_rfl) ?_
 exact HX.out w6 _ _ _ _ _ _ _ _ _ _ _ _ _ _ _ _ _ _ _ _ _ _ _ _ _ _ _ _ _ _ _ _ _ _ _ _ _ _ _ _ _ _ _ _ _ _ _ _ _ _ _ _ _ _ _ _ _ _ _ _ _ _ _ _ hbB
theorem ndcells_get:∀ (es:List (Nd×Value×Value))(k:Nat)(x:Nd×Value×Value),es[k]?=some x→∀ j,j<8→(ndcells es)[k*8+j]?=(nd8 x)[j]?
 | [],k,x,h=>by simp at h
 | e::es,0,x,h=>fun j hj=>by
  simp only[List.getElem?_cons_zero,Option.some.injEq]at h;subst h;show (nd8 e++ndcells es)[0*8+j]?=_;rw[List.getElem?_append_left (by show 0*8+j<8;omega),Nat.zero_mul,Nat.zero_add]
 | e::es,k+1,x,h=>fun j hj=>by
  show (nd8 e++ndcells es)[(k+1)*8+j]?=_;rw[List.getElem?_append_right (by show 8≤(k+1)*8+j;omega),show (k+1)*8+j-(nd8 e).length=k*8+j from by show (k+1)*8+j-8=_;omega]
  exact ndcells_get es k x (by simpa using h) j hj
theorem NdsIn.at {W:World}{o:Own}{p:Option Addr}{c n:Nat}{l:List Nd}(h:NdsIn W o (.slice p n c) l)(hn:n=l.length){k:Nat}{x:Nd}(hx:l[k]?=some x) :
  ∃ g pa ca qa da,p=some ⟨g,0,none⟩∧n≤c∧(∀ W',Below W.heap.size W W'→W'.cell? ⟨g,k*8,none⟩=some (.int .i64 x.ser)∧W'.cell? ⟨g,k*8+1,none⟩=some (.int .i64 x.shp.p)∧W'.cell? ⟨g,k*8+2,none⟩=some (.int .i64 x.shp.d)∧W'.cell? ⟨g,k*8+3,none⟩=some (.bool x.shp.weak)∧W'.cell? ⟨g,k*8+4,none⟩=some (.bool x.shp.final)∧W'.cell? ⟨g,k*8+5,none⟩=some (.bool x.freed)∧W'.cell? ⟨g,k*8+6,none⟩=some (.slice pa x.ptrs.length ca)∧W'.cell? ⟨g,k*8+7,none⟩=some (.slice qa x.nums.length da)) ∧
   Row W o (51,0) 3 1 (.slice pa x.ptrs.length ca) x.ptrs.length (x.ptrs.map zv)∧Row W o (52,0) 3 1 (.slice qa x.nums.length da) x.nums.length (x.nums.map zv):=by
 obtain⟨es,he,hr,hi⟩:=h;obtain⟨e,hek,rfl⟩:∃ e,es[k]?=some e∧e.1=x:=by
  rw[←he,List.getElem?_map]at hx;obtain⟨e,h1,h2⟩:=Option.map_eq_some_iff.1 hx;exact⟨e,h1,h2⟩
 obtain⟨h1,h2⟩:=hi e (List.mem_of_getElem? hek);obtain⟨pa,ca,ea⟩:=h1.slc;obtain⟨qa,da,eb⟩:=h2.slc;have hl:k<l.length:=(List.getElem?_eq_some_iff.1 hx).1;subst hn;obtain⟨x,v1,v2⟩:=e;simp only at h1 h2 ea eb;subst ea eb;rcases hr.form4 with ⟨_,h0⟩|⟨g,cap,e,hcap⟩
 ·have:=hr.len;rw[h0]at this;simp at this;omega
 ·injection e with e1 _ e3
  subst e1 e3;refine⟨g,pa,ca,qa,da,rfl,hcap,fun W' hW=>?_,h1,h2⟩
  have hc:∀ j v,j<8→(nd8 (x,Value.slice pa x.ptrs.length ca,Value.slice qa x.nums.length da))[j]?=some v→W'.cell? ⟨g,k*8+j,none⟩=some v:=fun j v hj hv=>by
   have:=(hr.below hW).own.cells (g:=g) rfl (k*8+j) v ((ndcells_get es k _ hek j hj).trans hv);rwa [addr_add]at this
  exact⟨hc 0 _ (by omega) rfl,hc 1 _ (by omega) rfl,hc 2 _ (by omega) rfl,hc 3 _ (by omega) rfl,hc 4 _ (by omega) rfl,hc 5 _ (by omega) rfl,hc 6 _ (by omega) rfl,hc 7 _ (by omega) rfl⟩
theorem same09_any {w:World}{o1 o2:Own}{va vb:Value}{l:List Nd}(ha:NdsIn w o1 va l)(hb:NdsIn w o2 vb l)(hn:l.length≤1000000)(hp:∀ x ∈ l,x.ptrs.length≤1000000∧x.nums.length≤1000000) :
  Calls Tryz.prog 22 #[va,vb] w fun e w'=>e=.returned (.bool true)∧Below w.heap.size w w':=by
 obtain⟨_,_,hra,_⟩:=id ha;obtain⟨_,_,hrb,_⟩:=id hb;obtain⟨pa,ca,rfl⟩:=hra.slc;obtain⟨pb,cb,rfl⟩:=hrb.slc;have HA:=Lib.hid ha;have HB:=Lib.hid hb;obtain⟨n,hnn⟩:∃ n,n=l.length:=⟨_,rfl⟩;rw[←hnn]at HA HB hn ⊢;have HN:=Lib.hid hnn;have HL:=Lib.hid (show n≤1099511627776 from by omega)
 have HP:=Lib.hid hp;clear ha hb hnn hn hra hrb hp;go_enter Tryz.func22,Tryz.ntmps22;go_wp2_with fail;go_loopw [5] (fun ix wr=>∃ k:Nat,ix=.int .i64 k∧k≤n∧Below w.heap.size w wr) (fun ix _=>n-(intOf ix).toNat)
 case atStart=>exact⟨0,rfl,Nat.zero_le _,bsame w⟩
 case round =>
  obtain⟨k,rfl,hkn,hb⟩:=hrel;by_cases hlt:k<n
  ·have hkI:(k:Int)<(n:Int):=by omega
   have HW:=Lib.hid (wrap_both k n hlt HL.out);obtain⟨x,hx⟩:∃ x,l[k]?=some x:=⟨_,List.getElem?_eq_getElem (by rw[←HN.out];exact hlt)⟩
   obtain⟨ga,pxa,cxa,qxa,dxa,rfl,hca,q,ra,sa⟩:=HA.out.at HN.out hx;obtain⟨gb,pxb,cxb,qxb,dxb,rfl,hcb,r,rb,sb⟩:=HB.out.at HN.out hx;obtain⟨hp1,hp2⟩:=HP.out x (List.mem_of_getElem? hx);have HS:=Lib.hid (fun (X:World)(hX:Below wr.heap.size wr X)=>And.intro (q X (btrans hb hX)) (r X (btrans hb hX)))
   have HC:=Lib.hid (fun (X:World)(hX:Below wr.heap.size wr X)=>ints09_any (ra.below (btrans hb hX)) (rb.below (btrans hb hX)) (by omega))
   have HD:=Lib.hid (fun (X:World)(hX:Below wr.heap.size wr X)=>ints09_any (sa.below (btrans hb hX)) (sb.below (btrans hb hX)) (by omega))
   clear hx q r ra rb sa sb hp1 hp2;go_upto_region 6 with fail;refine same_r6 _ wr ga gb k n _ _ x.ser x.shp.p x.shp.d x.shp.weak x.shp.final x.freed pxa qxa pxb qxb x.ptrs.length x.nums.length cxa dxa cxb dxb hlt hca hcb (fun X hX=>?_) HC.out HD.out (fun c d x a w h=>by cases d<;>exact h) ?_
   ·obtain⟨⟨a0,a1,a2,a3,a4,a5,a6,a7⟩,b0,b1,b2,b3,b4,b5,b6,b7⟩:=HS.out X hX
    exact⟨a0,a1,a2,a3,a4,a5,a6,a7,b0,b1,b2,b3,b4,b5,b6,b7⟩
   ·intros
    rename_i X _ _ _ _ _ _ _ _ _ _ _ _ _ _ _ _ _ _ _ _ _ _ _ _ _ _ _ _ _ _ _ _ _ _ _ _ _ _ _ _ _ _ _ _ _ _ _ _ _ _ _ _ _ _ _ _ _ _ _ _ _ _ _ _ hX;obtain⟨hw1,hw2⟩:=HW.out;have hbX:=btrans hb hX;go_wp2_with fail;go_roundw
    case rel=>exact⟨k+1,by simp,hlt,hbX⟩
    case measure=>clear hw1 hw2;simp[intOf];omega
  ·obtain rfl:k=n:=by omega
   go_wp2_with fail;go_ret;exact⟨rfl,hb⟩
section
variable {w w' : World} {o o' : Own} {y : SLay} {S : Stt} {i : Nat}
theorem cyc_ok (hk:S.ok):S.cyc.ok∧S.cyc.next+S.cyc.H.final.length+S.rdy.length≤S.cyc.H.serial:=by
 obtain⟨h1,h2⟩:=ok_cycR hk;rw[cycR_eq]at h1 h2;simp only at h1 h2;exact⟨⟨h1.H,h1.n2,h1.lv,h1.t1,h1.t8,h1.lg,h1.st,h1.ve,h1.ho,h1.sc,h1.so,h1.qu,h1.nx,h1.cm,h1.se,h1.ph⟩,h2⟩
theorem fin_le (hk:S.ok):S.H.finals.2.length≤1099511627776:=by
 have h1:=hk.H.fl;have h2:=hk.H.ok.ser;unfold Hp.finals;split
 ·simp
 ·rw[movedL_len]
  have:=stay_len S.H S.H.final;omega
theorem drop_le (hk:S.ok):S.H.drop.2.1.length≤1099511627776:=by
 have h1:=hk.H.wl;have h2:=hk.H.ok.ser;unfold Hp.drop;split
 ·simp
 ·have h3:=dropL_len S.H.settled.weak S.H.settled
  have h4:S.H.settled.weak.length≤S.H.weak.length:=by show (S.H.stay S.H.weak).length≤_;have:=stay_len S.H S.H.weak;omega
  simp only;omega
theorem scyc_any (h:StIn w o y S)(hk:S.ok) :
  Calls Tryz.prog 67 #[ptr y.cy] w fun e w'=>e=.returned (.bool S.stepR.2)∧∃ o' vr vs,StCy w' o' y S.cyc vr vs S.rdy S.lst∧Stp (stTag y) o o' w w':=by
 rw[stepR_eq];simp only;have ho:=h.open';by_cases h0:S.ph=0
 ·have e:cyc1 S.H S.ph [] []=(S.H,0,[],[],false):=by unfold cyc1;rw[if_pos h0]
  have hc:=h.cyIn;rw[h0]at hc;refine (cstep_none hc).mono ?_
  rintro e' w'⟨rfl,hb⟩
  unfold Stt.cyc Stt.rdy Stt.lst;rw[e];refine⟨rfl,o,.slice none 0 0,.slice none 0 0,?_,Stp.of_below hb⟩;have e2:({ S with H:=S.H,ph:=0 }:Stt)=S:=by obtain⟨⟩:=S;simp only at h0;subst h0;rfl
  simp only;rw[e2];exact ho.below hb
 ·refine (cstep_go h.hp hk.H h.cyIn (by have:=hk.ph.1;omega) (by simp) (fin_le hk) (by simp) (drop_le hk)).mono ?_
  rintro e' w'⟨rfl,o',hH,hC,hs⟩
  obtain⟨vr,vs,hb,h1,h2⟩:=hC.blk;exact⟨rfl,o',vr,vs,ho.cyc hH hb h1 h2 hs,hs.mono fun _ h=>h.1⟩
end
theorem fst_own (y:SLay)(j:Nat)(h:j=11∨j=13∨j=14∨j=15):ownTag y (y.l.id,j):=⟨rfl,h⟩
theorem ready1_next (S:Stt)(p:Nat):(S.ready1 p).next≤S.next+1:=by
 unfold Stt.ready1;split
 ·exact Nat.le_succ _
 ·exact Nat.le_refl _
theorem readyL_next:∀ (l:List Nat)(S:Stt),(S.readyL l).next≤S.next+l.length
 | [],S=>Nat.le_refl _
 | p::l,S=>by
  have h1:=ready1_next S p;have h2:=readyL_next l (S.ready1 p);show ((S.ready1 p).readyL l).next≤_;rw[List.length_cons];omega
theorem readyL_same:∀ (l:List Nat)(S:Stt),(S.readyL l).lost=S.lost
 | [],_=>rfl
 | p::l,S=>by
  show ((S.ready1 p).readyL l).lost=_;rw[readyL_same l (S.ready1 p)];unfold Stt.ready1;split<;>rfl
section
variable {w w' : World} {o o' : Own} {y : SLay} {S : Stt} {i : Nat}
theorem sstep_any (h0:StIn w o y S) (hk:S.ok) (hl:S.lost.length≤1099511627776) :
  Calls Tryz.prog 19 #[ptr y.sb] w fun e w'=>e=.returned (.bool S.stepR.2)∧Lft y S.stepR.1 o w w':=by
 obtain⟨iI,hi,hsI,hyI,hzI⟩:=info_int;obtain⟨iU,hiU,hsU,hyU,hzU⟩:=info_item;have hu64:=Tryz.underlying25;have huI:=Tryz.underlying99;have HY:=Lib.hid (scyc_any h0 hk);obtain⟨hk1,hk2⟩:=cyc_ok hk
 have hls:S.lst.length≤1099511627776:=by
  unfold Stt.lst cyc1;split
  ·simp
  ·split
   ·simp
   ·split
    ·simp
    ·simp only[List.nil_append];exact drop_le hk
 have hfin:=stepR_eq S;obtain⟨T,hT⟩:∃ T,T=S.cyc:=⟨_,rfl⟩;obtain⟨rd,hrd⟩:∃ rd,rd=S.rdy:=⟨_,rfl⟩;obtain⟨ls,hlse⟩:∃ ls,ls=S.lst:=⟨_,rfl⟩;obtain⟨b,hb⟩:∃ b,b=S.stepR.2:=⟨_,rfl⟩;have hTl:T.lost=S.lost:=by rw[hT];rfl
 rw[←hT,←hrd,←hlse]at HY hfin;rw[←hb]at HY ⊢;rw[←hT]at hk1 hk2;rw[←hrd]at hk2;rw[←hlse]at hls;have hS1:S.stepR.1={ T.readyL rd with lost:=S.lost++ls }:=by rw[hfin]
 rw[hS1,←hTl];rw[←hTl]at hl;obtain⟨vq,vl,vm,jb,_⟩:=h0.blk;unfold stCells at jb;have c:=jb.cell;have HK1:=Lib.hid hk1;have HK2:=Lib.hid hk2;have HLs:=Lib.hid hls;have HTl:=Lib.hid hl;generalize S.next=N at *;generalize S.holder=N1 at *;generalize S.version=N2 at *;clear h0 hk hl hT hrd hlse hb hTl hfin hk1 hk2 hls hS1 jb;go_enter Tryz.func19,Tryz.ntmps19;go_wp2_with fail;refine HY.out.mono ?_
 rintro e w1 ⟨rfl,o1,vr,vs,hC1,hs1⟩
 have HRd:=Lib.hid (cready_is hC1.cb hC1.oy hC1.cr);obtain⟨vq1,vl1,vm1,j1,_⟩:=hC1.blk;unfold stCells at j1;clear c;have c:=j1.cell;have HC1:=Lib.hid hC1;have HS1:=Lib.hid hs1;clear hC1 hs1 HY;go_wp2_with fail;refine HRd.out.mono ?_
 rintro e w2 ⟨rfl,hr2,hb2,hs2⟩
 obtain⟨pr,cr,rfl⟩:=hr2.slc;have hC2:StCy w2 o1 y T (.slice none 0 0) vs [] ls:=HC1.out.cyb hb2 (Row.nil _ _ _ _ _) (HC1.out.cl.stp hs2 (by simp)) hs2
 have hs2':Stp (stTag y) o o1 w w2:=HS1.out.trans (hs2.mono (by rintro _ rfl;exact rfl))
 obtain⟨n,hn⟩:∃ n,n=rd.length:=⟨_,rfl⟩;rw[←hn]at hr2 ⊢;have HN:=Lib.hid hn;have hn40:n≤1099511627776:=by rw[hn];have:=HK2.out;have:=HK1.out.H.ok.ser;omega
 have HN40:=Lib.hid hn40;have HX:=Lib.hid (And.intro hC2 (And.intro hr2 hs2'));clear hC2 hr2 hs2' hs2 hb2 HC1 HS1 HRd c j1 hn hn40;go_wp2_with fail;go_loopw [24] (fun ix wr=>∃ (k:Nat) (oo:Own),ix=.int .i64 k∧k≤n∧StCy wr oo y (T.readyL (rd.take k)) (.slice none 0 0) vs [] ls∧Row wr oo (y.l.id,8) 3 1 (.slice pr n cr) n (rd.map nv)∧Stp (stTag y) o oo w wr) (fun ix _=>n-(intOf ix).toNat)
 case atStart=>exact⟨0,o1,rfl,Nat.zero_le _,HX.out⟩
 case round =>
  clear HX;obtain⟨k,oo,rfl,hkn,hC,hr,hs⟩:=hrel;obtain⟨wo,rfl⟩:∃ wo:World,wo=wr:=⟨_,rfl⟩;have hok:=ok_readyL (rd.take k) HK1.out (by rw[List.length_take];have:=HK2.out;omega)
  by_cases hlt:k<n
  ·have hkI:(k:Int)<(n:Int):=by omega
   obtain⟨x,hx⟩:∃ x,rd[k]?=some x:=⟨_,List.getElem?_eq_getElem (by rw[←HN.out];exact hlt)⟩
   have htk:=take_snoc_get hx;have hst:T.readyL (rd.take (k+1))=(T.readyL (rd.take k)).ready1 x:=by rw[htk];exact readyL_snoc _ _ _
   have hnx:(T.readyL (rd.take k)).next+1≤1099511627776∧(T.readyL (rd.take k)).came.length+1≤1099511627776:=by
    have h1:=readyL_next (rd.take k) T;have h2:=hok.1.cm;have h3:=HK2.out;have h4:=HK1.out.H.ok.ser;rw[List.length_take]at h1;have h5:=HN.out;omega
   obtain⟨U,hU⟩:∃ U,U=T.readyL (rd.take k):=⟨_,rfl⟩;rw[←hU]at hC hok hst hnx;have HST:=Lib.hid hst
   obtain⟨g,cap,e,hcell⟩:∃ g cap,Value.slice pr n cr=.slice (some ⟨g,0,none⟩) n cap∧wo.cell? ⟨g,k,none⟩=some (.int .i64 x):=by
    rcases hr.form with ⟨_,h0⟩|⟨g,cap,e,_⟩
    ·omega
    ·injection e with e1 _ e3
     subst e1 e3;exact⟨g,cr,rfl,hr.cells k _ (by rw[List.getElem?_map,hx];rfl)⟩
   injection e with e1 _ e3;subst e1 e3;have HSh:=Lib.hid (at_shape hC.hp hok.1.H.ok x);have HK:=Lib.hid hok.1;obtain⟨vq,vl,vm,jb,hrw⟩:=hC.blk;unfold stCells at jb;have hrq:=hrw.q;obtain⟨pq,cq,rfl⟩:=hrq.slc;have HJ:=Lib.hid jb;have HW:=Lib.hid hrw;have HC:=Lib.hid hC;have HR:=Lib.hid hr;have HS:=Lib.hid hs;have HNX:=Lib.hid hnx;have HKN:=Lib.hid (wrap_nat k (by have:=HN40.out;omega))
   have c:=jb.cell
   cases hf:U.H.freedAt x with
   | true =>
    rw[hf]at HSh;have hr1:U.ready1 x=U:=by unfold Stt.ready1;rw[if_pos (.inl hf)]
    rw[hr1]at HST;clear hx htk hst hnx hC hok hU hr1 hf jb hrw hr hs hrq;go_wp2_with fail;refine HSh.out.mono ?_
    rintro e w3 ⟨sp,sd,wk,fn,er,rfl,hb3⟩
    obtain⟨hw1,hw2⟩:=HKN.out;clear c;go_wp2_with fail;go_roundw
    case rel=>exact⟨k+1,oo,by simp,hlt,by rw[HST.out];exact HC.out.below (balloc hb3 _),HR.out.below (balloc hb3 _),HS.out.trans (Stp.of_below (balloc hb3 _))⟩
    case measure=>simp[intOf];omega
   | false =>
    rw[hf]at HSh;by_cases h100:100≤U.queue.length
    ·have hr1:U.ready1 x=U:=by unfold Stt.ready1;rw[if_pos (.inr h100)]
     rw[hr1]at HST;have hqI:(100:Int)≤(U.queue.length:Int):=by omega
     obtain⟨hw1,hw2⟩:=HKN.out;clear hx htk hst hnx hC hok hU hr1 hf hrw hr hs hrq;go_wp2_with (first|(go_at_call 69;refine HSh.out.mono ?_;rintro e w3 ⟨sp,sd,wk,fn,er,rfl,hb3⟩;have c3:=((jb.below hb3 jb.lt).alloc (.cells #[.int .i64 sp,.int .i64 sd,.bool wk,.bool fn] 93)).cell)|fail)
     go_roundw
     case rel=>exact⟨k+1,oo,by simp,hlt,by rw[HST.out];exact HC.out.below (balloc hb3 _),HR.out.below (balloc hb3 _),HS.out.trans (Stp.of_below (balloc hb3 _))⟩
     case measure=>simp[intOf];omega
    ·have hr1:U.ready1 x={ U with queue:=U.queue++[(x,U.next)],came:=U.came++[(U.H.serR x).1],next:=U.next+1 }:=by unfold Stt.ready1;rw[if_neg (by rw[hf];simp[h100])]
     rw[hr1]at HST;have hqI:¬((100:Int)≤(U.queue.length:Int)):=by omega
     have hql:U.queue.length<100:=by omega
     have HSe:=Lib.hid (fun (w2:World) (hb:Below wo.heap.size wo w2)=>at_serial (HC.out.below hb).hp HK.out.H.ok x)
     obtain⟨ser,hser⟩:∃ ser,ser=(U.H.serR x).1:=⟨_,rfl⟩;obtain⟨se2,hse2⟩:∃ se2,se2=(U.H.serR x).2:=⟨_,rfl⟩;rw[←hser]at HST HSe;rw[←hse2]at HSe;clear hx htk hst hnx hC hok hU hr1 hf hrw hr hs hrq h100 hser hse2
     go_wp2_with (first
      | (go_at_call 69;refine HSh.out.mono ?_;rintro e w3 ⟨sp,sd,wk,fn,er,rfl,hb3⟩;have c3:=((jb.below hb3 jb.lt).alloc (.cells #[.int .i64 sp,.int .i64 sd,.bool wk,.bool fn] 93)).cell;have hb3':=balloc hb3 (.cells #[.int .i64 sp,.int .i64 sd,.bool wk,.bool fn] 93))
      | (go_at_call 70;refine (HSe.out _ hb3').mono ?_;rintro e w4 ⟨rfl,hb4⟩;have hbw:=btrans hb3' hb4;have c4:=(jb.below hbw jb.lt).cell)
      | fail)
     have C4:=HC.out.below hbw;have R4:=Lib.hid (HR.out.below hbw);have S4:=Lib.hid (HS.out.trans (Stp.of_below hbw));obtain⟨vq4,vl4,vm4,j4,hrw4⟩:=C4.blk;have hoS:=C4.os;have rq4:=hrw4.q;have rm4:=hrw4.m;obtain⟨pq4,cq4,rfl⟩:=rq4.slc;obtain⟨pm4,cm4,rfl⟩:=rm4.slc;have J4:=Lib.hid j4;unfold stCells at j4;clear c c3 c4 hb3 hb3' hb4 hbw HSh HSe HC HR HS HJ HW jb;have c4:=j4.cell;have hne13:∀ b,o b=(y.l.id,13)→True:=fun _ _=>trivial
     have jn:=Blk.new w4.drew #[.int .i64 x,.int .i64 U.next] 117;have rn:Row (w4.drew.alloc (.cells #[.int .i64 x,.int .i64 U.next] 117)) oo (y.l.id,13) 117 2 (.slice pq4 U.queue.length cq4) U.queue.length (hcells U.queue):=rq4.below (balloc (bdrew (bsame w4)) _);have hml:U.queue.length+1≤maxLen∧(U.queue.length+1)*16≤140737488355328:=by simp only[maxLen];omega
     obtain⟨hml,hmb⟩:=hml;have h1c:∀ u ∈ [Value.int .i64 (x:Int),.int .i64 (U.next:Int)],u.oneCell'=true:=by intro u hu;simp at hu;rcases hu with rfl|rfl<;>rfl
     have HF10:=Lib.hid (fun (w5:World) (o5:Own) (p5:Option Addr) (c5:Nat) (hown:Row w5 o5 (y.l.id,13) 117 2 (.slice p5 (U.queue.length+1) c5) (U.queue.length+1) (hcells U.queue++[.int .i64 x,.int .i64 U.next])) (hst:Stp (fun u=>u=(y.l.id,13)) oo o5 (w4.drew.alloc (.cells #[.int .i64 x,.int .i64 U.next] 117)) w5) =>
      show StCy (w5.setCell ⟨y.sb,4,none⟩ (.slice p5 (U.queue.length+1) c5)) o5 y { U with queue:=U.queue++[(x,U.next)] } (.slice none 0 0) vs [] ls∧Row (w5.setCell ⟨y.sb,4,none⟩ (.slice p5 (U.queue.length+1) c5)) o5 (y.l.id,8) 3 1 (.slice (some ⟨g,0,none⟩) n cr) n (rd.map nv)∧Stp (stTag y) o o5 w (w5.setCell ⟨y.sb,4,none⟩ (.slice p5 (U.queue.length+1) c5)) from by
       have kb:Stp (fun u=>u=(y.l.id,13)) oo oo w4 (w4.drew.alloc (.cells #[.int .i64 x,.int .i64 U.next] 117)):=Stp.of_below (balloc (bdrew (bsame w4)) _)
       have k1:=kb.trans hst;have o5s:o5 y.sb=(y.l.id,11):=(k1.tags _ J4.out.lt).trans hoS;have k2:Stp (fun u=>u=(y.l.id,11)) o5 o5 w5 (w5.setCell ⟨y.sb,4,none⟩ (.slice p5 (U.queue.length+1) c5)):=(Stp.refl _ o5 w5).setCell (by show o5 y.sb=_;exact o5s) _
       have k3:Stp (ownTag y) oo o5 w4 (w5.setCell ⟨y.sb,4,none⟩ (.slice p5 (U.queue.length+1) c5)):=(k1.mono (by rintro _ rfl;exact fst_own y 13 (by omega))).trans (k2.mono (by rintro _ rfl;exact fst_own y 11 (by omega)))
       have hq5:Row (w5.setCell ⟨y.sb,4,none⟩ (.slice p5 (U.queue.length+1) c5)) o5 (y.l.id,13) 117 2 (.slice p5 (U.queue.length+1) c5) (U.queue++[(x,U.next)]).length (hcells (U.queue++[(x,U.next)])):=
        (hown.stp k2 (by simp)).ite (by simp) (by rw[hcells_snoc];rfl)
       refine⟨C4.own (S':={ U with queue:=U.queue++[(x,U.next)] }) rfl rfl rfl rfl rfl ((J4.out.stp k1 (by rw[hoS];simp)).set 4 _) ⟨hq5,(hrw4.l.stp k1 (by simp)).stp k2 (by simp),(hrw4.m.stp k1 (by simp)).stp k2 (by simp)⟩ k3,R4.out.stp k3 (ownTag_no (by omega) (by omega) (by omega) (by omega)),S4.out.trans (k3.mono fun _ h=>h.1)⟩)
     have HJk:=Lib.hid (fun (w5:World) (o5:Own) (hst:Stp (fun u=>u=(y.l.id,13)) oo o5 (w4.drew.alloc (.cells #[.int .i64 x,.int .i64 U.next] 117)) w5)=>(j4.below (balloc (bdrew (bsame w4)) (.cells #[.int .i64 x,.int .i64 U.next] 117)) j4.lt).stp hst (by rw[hoS];simp))
     have s4:=j4.lt;clear C4 hrw4 rq4 rm4;go_region_law ((refine step_append_row _ (by rfl) _ _ _ (by rfl) 117 iU _ 2 16 huI hiU hzU hsU hyU (by rfl) (by decide) oo (y.l.id,13) _ _ _ (by rfl) rn ⟨w4.heap.size,0,none⟩ 1 1 [.int .i64 x,.int .i64 U.next] (by rfl) (by rfl) (news_blk jn) h1c hml hmb ?_;intro v' w5 hown hst;obtain⟨p5,c5,rfl⟩:=hown.slc;have jX:=HJk.out _ _ hst;have cX:=jX.cell;have zX:=jX.free;have sX:=jX.lt))
     all_goals
      obtain⟨W6,o6,hW6,C6,R6,S6⟩:∃ (W6:World) (o6:Own),W6=w5.setCell ⟨y.sb,4,none⟩ (.slice p5 (U.queue.length+1) c5)∧StCy W6 o6 y { U with queue:=U.queue++[(x,U.next)] } (.slice none 0 0) vs [] ls ∧
       Row W6 o6 (y.l.id,8) 3 1 (.slice (some ⟨g,0,none⟩) n cr) n (rd.map nv)∧Stp (stTag y) o o6 w W6:=⟨_,_,rfl,HF10.out w5 _ p5 c5 hown hst⟩
      rw[←hW6];clear hW6 hown hst jX cX zX sX HF10 HJk J4 R4 S4;have o6s:=C6.os;obtain⟨vq6,vl6,vm6,j6,hrw6⟩:=C6.blk;have rm6:=hrw6.m;obtain⟨pm6,cm6,rfl⟩:=rm6.slc;have j6':Blk W6 y.sb #[ptr y.l.h,ptr y.cy,ptr y.ck,y.vth,vq6,.int .i64 U.next,.int .i64 U.holder,.int .i64 U.version,vl6,.slice pm6 U.came.length cm6] 101:=j6;have rm6':Row W6 o6 (y.l.id,15) 3 1 (.slice pm6 U.came.length cm6) U.came.length (U.came.map nv):=rm6
      have HF11:=Lib.hid (fun (w7:World) (o7:Own) (p7:Option Addr) (c7:Nat) (hown7:Row w7 o7 (y.l.id,15) 3 1 (.slice p7 (U.came.length+1) c7) (U.came.length+1) (U.came.map nv++[.int .i64 ser])) (hst7:Stp (fun t=>t=(y.l.id,15)) o6 o7 (W6.alloc (.cells #[.int .i64 ser] 3)) w7) =>
       show Blk w7 y.sb #[ptr y.l.h,ptr y.cy,ptr y.ck,y.vth,vq6,.int .i64 U.next,.int .i64 U.holder,.int .i64 U.version,vl6,.slice pm6 U.came.length cm6] 101 ∧
        StCy ((w7.setCell ⟨y.sb,9,none⟩ (.slice p7 (U.came.length+1) c7)).setCell ⟨y.sb,5,none⟩ (.int .i64 ((U.next:Int)+1))) o7 y { U with queue:=U.queue++[(x,U.next)],came:=U.came++[ser],next:=U.next+1 } (.slice none 0 0) vs [] ls ∧
        Row ((w7.setCell ⟨y.sb,9,none⟩ (.slice p7 (U.came.length+1) c7)).setCell ⟨y.sb,5,none⟩ (.int .i64 ((U.next:Int)+1))) o7 (y.l.id,8) 3 1 (.slice (some ⟨g,0,none⟩) n cr) n (rd.map nv) ∧
        Stp (stTag y) o o7 w ((w7.setCell ⟨y.sb,9,none⟩ (.slice p7 (U.came.length+1) c7)).setCell ⟨y.sb,5,none⟩ (.int .i64 ((U.next:Int)+1))) from by
       have k1:Stp (fun t=>t=(y.l.id,15)) o6 o7 W6 w7:=(Stp.of_below (balloc (bsame W6) _)).trans hst7
       have j7:=j6'.stp k1 (by rw[o6s];simp)
       have o7s:o7 y.sb=(y.l.id,11):=(k1.tags _ j6'.lt).trans o6s;have k2:Stp (fun t=>t=(y.l.id,11)) o7 o7 w7 ((w7.setCell ⟨y.sb,9,none⟩ (.slice p7 (U.came.length+1) c7)).setCell ⟨y.sb,5,none⟩ (.int .i64 ((U.next:Int)+1))):=((Stp.refl _ o7 w7).setCell (by show o7 y.sb=_;exact o7s) _).setCell (by show o7 y.sb=_;exact o7s) _
       have k3:Stp (ownTag y) o6 o7 W6 ((w7.setCell ⟨y.sb,9,none⟩ (.slice p7 (U.came.length+1) c7)).setCell ⟨y.sb,5,none⟩ (.int .i64 ((U.next:Int)+1))):=(k1.mono (by rintro _ rfl;exact fst_own y 15 (by omega))).trans (k2.mono (by rintro _ rfl;exact fst_own y 11 (by omega)))
       have j9:=(j7.set 9 (.slice p7 (U.came.length+1) c7)).set 5 (.int .i64 ((U.next:Int)+1));refine⟨j7,C6.own (S':={ U with queue:=U.queue++[(x,U.next)],came:=U.came++[ser],next:=U.next+1 }) rfl rfl rfl rfl rfl (vq:=vq6) (vl:=vl6) (vm:=.slice p7 (U.came.length+1) c7) j9 ⟨(hrw6.q.stp k1 (by simp)).stp k2 (by simp),(hrw6.l.stp k1 (by simp)).stp k2 (by simp),(hown7.stp k2 (by simp)).ite (by simp) (by simp[nv])⟩ k3,R6.stp k3 (ownTag_no (by omega) (by omega) (by omega) (by omega)),S6.trans (k3.mono fun _ h=>h.1)⟩)
      have hml2:U.came.length+1≤maxLen∧(U.came.length+1)*8≤140737488355328:=by have:=HNX.out;simp only[maxLen];omega
      obtain⟨hml2,hmb2⟩:=hml2;obtain⟨hw1,hw2⟩:=HKN.out;obtain⟨hw3,hw4⟩:=wrap_nat U.next (by have:=HNX.out;omega)
      have RM6:=Lib.hid rm6';have c6:=j6'.cell;have l6:=j6'.lt;clear C6 R6 S6 hrw6 rm6 rm6' j6 j6' o6s
      go_wp2_with (first
       | (at_builtin;refine wpList_append_row _ rfl _ _ _ rfl 3 iI _ 1 8 hu64 hi hzI hsI hyI rfl (by decide) o6 (y.l.id,15) _ _ _ rfl (RM6.out.below (balloc (bsame W6) _)) ⟨W6.heap.size,0,none⟩ 1 1 [.int .i64 ser] rfl rfl (news_one (Blk.new W6 _ _)) one_i64 hml2 hmb2 ?_;intro v7 w7 hown7 hst7;obtain⟨p7,c7,rfl⟩:=hown7.slc;obtain⟨j7,hfin⟩:=HF11.out _ _ _ _ hown7 hst7;have c7:=j7.cell;have z7:=j7.free;have l7:=j7.lt)
       | fail)
      go_roundw
      case rel=>exact⟨k+1,_,by simp,hlt,by rw[HST.out];exact hfin.1,hfin.2.1,hfin.2.2⟩
      case measure=>clear hw1 hw2 hw3 hw4 hml2 hmb2 hqI HNX;simp[intOf];omega
  ·obtain rfl:k=n:=by omega
   rw[HN.out,List.take_length]at hC;have hlo:(T.readyL rd).lost=T.lost:=readyL_same rd T;obtain⟨TT,hTT⟩:∃ TT,TT=T.readyL rd:=⟨_,rfl⟩;rw[←hTT]at hC hlo;have HPost:=Lib.hid (show ∀ (w':World) (o':Own),StIn w' o' y { TT with lost:=TT.lost++ls }→Stp (stTag y) o o' w w'→Lft y { T.readyL rd with lost:=T.lost++ls } o w w' from fun w' o' h1 h2=>⟨o',by rw[←hlo,←hTT];rw[hTT]at h1 ⊢;exact h1,h2⟩)
   rw[←hlo]at HTl;obtain⟨vq,vl,vm,jb,hrw⟩:=hC.blk;have hrl:=hrw.l;obtain⟨pl,cl,rfl⟩:=hrl.slc;have hcl:=hC.cl;obtain⟨pvs,cvs,rfl⟩:=hcl.slc;have jb':Blk wo y.sb #[ptr y.l.h,ptr y.cy,ptr y.ck,y.vth,vq,.int .i64 TT.next,.int .i64 TT.holder,.int .i64 TT.version,.slice pl TT.lost.length cl,vm] 101:=jb;have HLo:=Lib.hid (clost_is (hC.below (bdrew (bsame wo))).cb hC.oy (hC.below (bdrew (bsame wo))).cl);have oS:=hC.os
   have HX:=Lib.hid (fun (w3:World) (hr:Row w3 oo (y.l.id,9) 3 1 (.slice pvs ls.length cvs) ls.length (ls.map nv)) (hb:Blk w3 y.cy #[ptr y.l.h,phF y.cy TT.ph,.slice none 0 0,.slice none 0 0] 201) (h3:Stp (fun t=>t=(y.l.id,7)) oo oo wo.drew w3) =>
    show StCy w3 oo y TT (.slice none 0 0) (.slice none 0 0) [] []∧Blk w3 y.sb #[ptr y.l.h,ptr y.cy,ptr y.ck,y.vth,vq,.int .i64 TT.next,.int .i64 TT.holder,.int .i64 TT.version,.slice pl TT.lost.length cl,vm] 101∧Row w3 oo (y.l.id,14) 3 1 (.slice pl TT.lost.length cl) TT.lost.length (TT.lost.map nv) from by
     have h3':Stp (fun t=>t=(y.l.id,7)) oo oo wo w3:=(Stp.of_below (bdrew (bsame wo))).trans h3
     exact⟨hC.cyb hb (Row.nil _ _ _ _ _) (Row.nil _ _ _ _ _) h3',jb'.stp h3' (by rw[oS];simp),hrl.stp h3' (by simp)⟩)
   have HY:=Lib.hid (fun (w3 w5:World) (o5:Own) (v5:Value) (h3:Stp (fun t=>t=(y.l.id,7)) oo oo wo.drew w3) (C3:StCy w3 oo y TT (.slice none 0 0) (.slice none 0 0) [] []) (j3:Blk w3 y.sb #[ptr y.l.h,ptr y.cy,ptr y.ck,y.vth,vq,.int .i64 TT.next,.int .i64 TT.holder,.int .i64 TT.version,.slice pl TT.lost.length cl,vm] 101)
     (hown:Row w5 o5 (y.l.id,14) 3 1 v5 (TT.lost.length+ls.length) (TT.lost.map nv++ls.map nv)) (hst:Stp (fun t=>t=(y.l.id,14)) oo o5 w3 w5) =>
    show Blk w5 y.sb #[ptr y.l.h,ptr y.cy,ptr y.ck,y.vth,vq,.int .i64 TT.next,.int .i64 TT.holder,.int .i64 TT.version,.slice pl TT.lost.length cl,vm] 101∧Lft y { T.readyL rd with lost:=T.lost++ls } o w (w5.setCell ⟨y.sb,8,none⟩ v5) from by
     have j5:=j3.stp hst (by rw[oS];simp)
     have o5s:o5 y.sb=(y.l.id,11):=(hst.tags _ j3.lt).trans oS;have k2:Stp (fun t=>t=(y.l.id,11)) o5 o5 w5 (w5.setCell ⟨y.sb,8,none⟩ v5):=(Stp.refl _ o5 w5).setCell (by show o5 y.sb=_;exact o5s) _
     have k3:Stp (ownTag y) oo o5 w3 (w5.setCell ⟨y.sb,8,none⟩ v5):=(hst.mono (by rintro _ rfl;exact fst_own y 14 (by omega))).trans (k2.mono (by rintro _ rfl;exact fst_own y 11 (by omega)))
     obtain⟨vq',vl',vm',jx,hrx⟩:=C3.blk
     have exq:vq'=vq∧vm'=vm:=by
      have a1:=jx.cell (i:=4);have a2:=jx.cell (i:=9);rw[j3.cell]at a1 a2;simp[stCells]at a1 a2;exact⟨a1.symm,a2.symm⟩
     obtain⟨rfl,rfl⟩:=exq;have C5:=C3.own (S':={ TT with lost:=TT.lost++ls }) rfl rfl rfl rfl rfl (vq:=vq') (vl:=v5) (vm:=vm') (j5.set 8 v5) ⟨(hrx.q.stp hst (by simp)).stp k2 (by simp),(hown.stp k2 (by simp)).ite (by simp) (by simp),(hrx.m.stp hst (by simp)).stp k2 (by simp)⟩ k3
     have h3':Stp (stTag y) oo oo wo w3:=((Stp.of_below (bdrew (bsame wo))).trans h3).mono (by rintro _ rfl;rfl)
     exact⟨j5,HPost.out _ _ C5.close ((hs.trans h3').trans (k3.mono fun _ h=>h.1))⟩)
   have hml:TT.lost.length+ls.length≤maxLen∧(TT.lost.length+ls.length)*8≤140737488355328:=by have:=HTl.out;have:=HLs.out;simp only[maxLen];omega
   obtain⟨hml,hmb⟩:=hml;have hhs:w.heap.size≤wo.heap.size:=hs.size;have cb:=jb'.cell;have lb:=jb'.lt;clear hTT hlo hrw hrl hcl jb jb' hC hs hr hok HPost hlt hkn hhs;go_upto_region 14 with fail
   go_region_law (first
    | (refine step_append_rows _ (by rfl) _ _ _ (by rfl) 3 iI _ 1 8 hu64 hi hzI hsI hyI (by rfl) (by decide) oo (y.l.id,14) _ TT.lost.length (TT.lost.map nv) (by rfl) rL oo (y.l.id,9) _ ls.length (ls.map nv) (by rfl) rS (nv_one _) hml hmb ?_;intro v5 w5 hown hst;obtain⟨p5,c5,rfl⟩:=hown.slc;obtain⟨j5,hfin⟩:=HY.out _ _ _ _ h3 C3 j3 hown hst;have c5':=j5.cell;have z5:=j5.free;have l5:=j5.lt)
    | (go_simp;go_wp2_with ((go_at_call 71;refine HLo.out.mono ?_;rintro e w3 ⟨rfl,rS,b3,h3⟩;obtain⟨C3,j3,rL⟩:=HX.out w3 rS b3 h3;have c3:=j3.cell;have l3:=j3.lt))))
   all_goals
    go_wp2_with fail;go_ret;exact⟨rfl,hfin⟩
end
end Go.Proofs.YteehgedabdchcaaGreat
