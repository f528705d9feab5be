import Derived.Test.YteehgedabdchcaaGreatQam
import Derived.Test.YteehgedabdchcaaGreatQau
import Derived.Test.YteehgedabdchcaaGreatQav
set_option linter.all false
set_option maxRecDepth 1000000
set_option maxHeartbeats 16000000
namespace Go.Proofs.YteehgedabdchcaaGreat
open Go.RowKit Go.Shelf Hp
attribute [local go_sem] Oper.semAt_some
theorem wpListIn_append_row {F:Fence}{n:Nat}{P:Program}(w:World){ops:Array Oper}{rest:List Oper}{op:Oper}{a:Act}{Q:Exit→Act→World→Prop}(hgd:op.guard=none)(s x:Operand)(t:TypeId)
  (ho:op.op=.call { callee:=.builtin .append,args:=#[s,x],argTypes:=#[t,t] })
  (e:TypeId)(i:TypeInfo)(z:Value)(size bytes:Nat)(ht:P.underlying t=some (.slice e))(hi:P.info? e=some i)(hz:i.zero=some z)
  (hsize:i.size=size)(hby:i.bytes=bytes)(hzs:z.cells.size=size)(hsz:0<size)
  (o:Own)(tg:Tag)(v:Value)(k:Nat)(xs:List Value)(hs:a.eval s=v)(hown:Row w o tg e size v k xs)
  (ad:Addr)(m c:Nat)(news:List Value)(hx:a.eval x=.slice (some ad) m c)(hl:news.length=m*size)(hnews:∀ j u,news[j]?=some u→w.cell? (ad.add j)=some u)(h1:∀ u ∈ news,u.oneCell'=true)
  (h63:k+m≤maxLen)(hbytes:(k+m)*bytes≤140737488355328)
  (h:∀ v' w',Row w' (ext o w.heap.size tg) tg e size v' (k+m) (xs++news)→Stp (fun u=>u=tg) o (ext o w.heap.size tg) w w'→wpListIn F n P ops Q rest (a.put op.dst v') w'):wpListIn F n P ops Q (op::rest) a w:=by
 refine wpListIn_plain hgd fun K hK'=>?_
 obtain⟨v',w',hrun,r1,r2⟩:=run_append_row (P:=P) w t op.type e i z size bytes ht hi hz hsize hby hzs hsz o tg v k xs hown ad m c news hl hnews h1 h63 hbytes;unfold Oper.wpIn;refine⟨?_,?_⟩
 ·simp[Oper.about,ho,resolve,Target.leads,Sem.run_pure]
 ·rw[Oper.semAt_plain F _ _ (by rw[ho];intro c hc';cases hc')]
  simp[execOp,ho,resolve,invoke,builtin,hs,hx,hrun,Result.andThen];exact hK' _ _ (h v' w' r1 r2)
theorem LgIn.slcs {w:World}{o:Own}{id k b:Nat}{L:Lg}{vr vk vh vu:Value}(h:LgIn w o id k b L vr vk vh vu) :
  (∃ a c,vr=.slice a L.reads.length c∧(0<L.reads.length→a=some ⟨rowB vr,0,none⟩))∧(∃ a c,vk=.slice a L.keeps.length c∧(0<L.keeps.length→a=some ⟨rowB vk,0,none⟩)) ∧
  (∃ a c,vh=.slice a L.holds.length c∧(0<L.holds.length→a=some ⟨rowB vh,0,none⟩))∧(∃ a c,vu=.slice a L.undos.length c∧(0<L.undos.length→a=some ⟨rowB vu,0,none⟩)):=by
 have f:∀ {e:TypeId}{size n:Nat}{t:Tag}{v:Value}{xs:List Value},Row w o t e size v n xs→∃ a c,v=.slice a n c∧(0<n→a=some ⟨rowB v,0,none⟩):=by
  intro e size n t v xs hr;obtain⟨a,c,rfl⟩:=hr.slc;refine⟨a,c,rfl,fun hn=>?_⟩
  obtain⟨cap,e1,_⟩:=row_form hr hn;injection e1
 exact⟨f h.rr,f h.rk,f h.rh,f h.ru⟩
theorem LgIn.kinds {w:World}{o:Own}{id k b:Nat}{L:Lg}{vr vk vh vu:Value}(h:LgIn w o id k b L vr vk vh vu)(j:Nat)(u:Un)(hu:L.undos[j]?=some u):w.cell? ⟨rowB vu,j*4,none⟩=some (nv u.kind):=by
 have hn:0<L.undos.length:=by have:=(List.getElem?_eq_some_iff.1 hu).1;omega
 obtain⟨cap,ev,_⟩:=row_form h.ru hn;have hr:=h.ru;rw[ev]at hr;exact (hr.cell4 j u hu).1
theorem putU_kinds:∀ (us:List Un)(l:List Nat),(putU us l).map (·.kind)=us.map (·.kind)
 | [],_=>rfl
 | u::us,l=>by
  unfold putU;split
  ·rw[List.map_cons,List.map_cons,putU_kinds us]
  ·rw[List.map_cons,List.map_cons,putU_kinds us]
theorem LgIn.kinds_put {w:World}{o:Own}{id k b:Nat}{L:Lg}{q:List Nat}{vr vk vh vu:Value}(h:LgIn w o id k b (L.put q) vr vk vh vu)(j:Nat)(u:Un)(hu:L.undos[j]?=some u):w.cell? ⟨rowB vu,j*4,none⟩=some (nv u.kind):=by
 have e:=congrArg (fun l=>l[j]?) (putU_kinds L.undos (q.drop (L.reads.length+L.keeps.length+L.holds.length)))
 simp only[List.getElem?_map,hu,Option.map_some]at e;obtain⟨z,hz,hk⟩:=Option.map_eq_some_iff.1 e;rw[h.kinds j z hz,hk]
abbrev tR:Tag:=(1,0)
abbrev tB:Tag:=(2,0)
structure RoJ (w:World)(b:Nat)(L:Lg)(vr vk vh vu:Value)(D bL bR:Nat)(R:Loop)(bA m:Nat)(o1:Own)(v:Value)(wr:World):Prop where
 sp:Stp T2 o00 o1 w wr
 hL:wr.heap[D+1]?=some (.loop R)
 hD:wr.heap[D]?=some (.deferred (some []))
 jA:Blk wr bA #[vr,vk] 25
 jL:Blk wr bL #[ptr b] 105
 jR:Blk wr bR #[v] 25
 row:Row wr o1 tR 3 1 v m ((L.roots.take m).map nv)
 tL:o1 (D+1)=tB
 tD:o1 D=tB
 tA:o1 bA=tB
 tl:o1 bL=tB
 tr:o1 bR=tB
section
variable {w : World} {b : Nat} {L : Lg} {vr vk vh vu : Value} {D bL bR : Nat} {R : Loop} {bA m : Nat} {o1 o2 : Own} {v : Value} {wr w2 : World}
theorem RoJ.of_stp (h:RoJ w b L vr vk vh vu D bL bR R bA m o1 v wr){T:Tag→Prop}(hs:Stp T o1 o2 wr w2)(hB:¬T tB)(hR:¬T tR)(hT:∀ t,T t→T2 t):RoJ w b L vr vk vh vu D bL bR R bA m o2 v w2:=
 have lL:=(Array.getElem?_eq_some_iff.1 h.hL).1
 have lD:=(Array.getElem?_eq_some_iff.1 h.hD).1
 ⟨h.sp.trans (hs.mono hT),(hs.block _ lL (by rw[h.tL];exact hB)).trans h.hL,(hs.block _ lD (by rw[h.tD];exact hB)).trans h.hD,h.jA.stp hs (by rw[h.tA];exact hB),h.jL.stp hs (by rw[h.tl];exact hB),h.jR.stp hs (by rw[h.tr];exact hB),h.row.stp hs hR,
  (hs.tags _ lL).trans h.tL,(hs.tags _ lD).trans h.tD,(hs.tags _ h.jA.lt).trans h.tA,(hs.tags _ h.jL.lt).trans h.tl,(hs.tags _ h.jR.lt).trans h.tr⟩
theorem RoJ.below (h:RoJ w b L vr vk vh vu D bL bR R bA m o1 v wr)(hb:Below wr.heap.size wr w2):RoJ w b L vr vk vh vu D bL bR R bA m o1 v w2:=
 h.of_stp (T:=fun _=>False) (Stp.of_below hb) id id fun _ h=>h.elim
end
section
variable {w : World} {b : Nat} {L : Lg} {vr vk vh vu : Value} {D bL bR : Nat} {R : Loop} {bA m : Nat} {o1 o2 : Own} {v : Value} {wr w2 : World}
theorem RoJ.put (h:RoJ w b L vr vk vh vu D bL bR R bA m o1 v wr)(hw:w.heap.size≤D)(R':Loop):RoJ w b L vr vk vh vu D bL bR R' bA m o1 v (wr.putObj (D+1) (.loop R')):=by
 have n1:bA≠D+1:=fun e=>by have:=h.jA;unfold Blk at this;rw[e,h.hL]at this;cases this
 have n2:bL≠D+1:=fun e=>by have:=h.jL;unfold Blk at this;rw[e,h.hL]at this;cases this
 have n3:bR≠D+1:=fun e=>by have:=h.jR;unfold Blk at this;rw[e,h.hL]at this;cases this
 exact⟨h.sp.put_new (by omega) _,World.putObj_heap_same (Array.getElem?_eq_some_iff.1 h.hL).1,(World.putObj_heap_other (by omega)).trans h.hD,h.jA.put n1,h.jL.put n2,h.jR.put n3,h.row.put h.hL _,h.tL,h.tD,h.tA,h.tl,h.tr⟩
theorem tB_no:¬(tB=tR):=fun e=>by simp at e
theorem RoJ.appended {v':Value}{x:Nat}(h:RoJ w b L vr vk vh vu D bL bR R bA m o1 v wr)(hs:Stp (fun u=>u=tR) o1 o2 wr w2)(hrow:Row w2 o2 tR 3 1 v' (m+1) ((L.roots.take m).map nv++[.int .i64 x]))(htk:(L.roots.take (m+1)).map nv=(L.roots.take m).map nv++[nv x]) :
  Blk w2 bR #[v] 25∧RoJ w b L vr vk vh vu D bL bR R bA (m+1) o2 v' (w2.setCell ⟨bR,0,none⟩ v'):=by
 have lL:=(Array.getElem?_eq_some_iff.1 h.hL).1;have lD:=(Array.getElem?_eq_some_iff.1 h.hD).1;have jR2:Blk w2 bR #[v] 25:=h.jR.stp hs (by rw[h.tr];exact tB_no)
 have tr2:o2 bR=tB:=(hs.tags _ h.jR.lt).trans h.tr;have k:Stp (fun u=>u=tB) o2 o2 w2 (w2.setCell ⟨bR,0,none⟩ v'):=(Stp.refl _ o2 w2).setCell (by show o2 bR=tB;exact tr2) v'
 have hL2:=(hs.block _ lL (by rw[h.tL];exact tB_no)).trans h.hL
 have hD2:=(hs.block _ lD (by rw[h.tD];exact tB_no)).trans h.hD
 have jA2:=h.jA.stp hs (by rw[h.tA];exact tB_no)
 have jL2:=h.jL.stp hs (by rw[h.tl];exact tB_no)
 have n1:bA≠bR:=fun e=>by unfold Blk at jA2 jR2;rw[e,jR2]at jA2;simp at jA2
 have n2:bL≠bR:=fun e=>by unfold Blk at jL2 jR2;rw[e,jR2]at jL2;simp at jL2
 have n3:D≠bR:=fun e=>by unfold Blk at jR2;rw[e,jR2]at hD2;cases hD2
 have n4:D+1≠bR:=fun e=>by unfold Blk at jR2;rw[e,jR2]at hL2;cases hL2
 refine⟨jR2,(h.sp.trans (hs.mono fun _ h=>Or.inl h)).trans (k.mono fun _ h=>Or.inr h),(Below.heap_setCell _ _ _ _ n4).trans hL2,(Below.heap_setCell _ _ _ _ n3).trans hD2,jA2.set_other n1 _,jL2.set_other n2 _,jR2.set 0 v',?_,(hs.tags _ lL).trans h.tL,(hs.tags _ lD).trans h.tD,(hs.tags _ h.jA.lt).trans h.tA,(hs.tags _ h.jL.lt).trans h.tl,tr2⟩
 rw[htk];exact hrow.stp k (fun e=>tB_no e.symm)
theorem Row.putd {e:TypeId}{size n:Nat}{t:Tag}{o:Own}{v:Value}{xs:List Value}(h:Row wr o t e size v n xs){l:Nat}{ds:Option (List Deferred)}(hl:wr.heap[l]?=some (.deferred ds))(x:Obj):Row (wr.putObj l x) o t e size v n xs:=by
 obtain⟨⟨h1,h2⟩,h3⟩:=h;refine⟨⟨h1,?_⟩,h3⟩;rcases h2 with h2|⟨g,cap,cur,rfl,hg,hh,r⟩
 ·exact .inl h2
 ·refine .inr ⟨g,cap,cur,rfl,hg,(World.putObj_heap_other fun e=>?_).trans hh,r⟩
  rw[e,hl]at hh;cases hh
theorem Row.mixed {e:TypeId}{size n:Nat}{v:Value}{xs:List Value}{w9:World}(hs:Stp T2 o00 o1 w wr)(h:Row w9 o1 (1,0) e size v n xs):Row w9 (fo w.heap.size) (1,0) e size v n xs:=by
 refine⟨h.own,fun b hb=>?_⟩
 have h1:=h.tag b hb;rcases Nat.lt_or_ge b w.heap.size with h2|h2
 ·rw[hs.tags b h2]at h1;simp[o00]at h1
 ·exact fo_ge h2
end
theorem take_snoc_nv {l:List Nat}{k x:Nat}(h:l[k]?=some x):(l.take (k+1)).map nv=(l.take k).map nv++[nv x]:=by rw[take_snoc_get h,List.map_append];rfl
theorem roots_log {w:World} {o:Own} {id k b:Nat} {L:Lg} {vr vk vh vu:Value} (h:LgIn w o id k b L vr vk vh vu) (hk:L.fit) :
  Calls Tryz.prog 65 #[ptr b] w fun e w'=>∃ v,e=.returned v∧Row w' (fo w.heap.size) (1,0) 3 1 v L.roots.length (L.roots.map nv)∧Below w.heap.size w w':=by
 have hN:L.roots.length≤1000:=by
  have h1:=lAddr_len vr vk vh vu L;have h2:=hk.ok.r;have h3:=hk.ok.k;have h4:=hk.ok.h;have h5:=hk.ok.u;have h6:=hk.ok.mr;have h7:=hk.ok.mu
  have h8:∀ us:List Un,(us.flatMap Un.places).length≤us.length*2:=fun us=>by
   induction us with
   | nil=>simp
   | cons u us ih =>
    rw[List.flatMap_cons,List.length_append,List.length_cons];have:u.places.length≤2:=by unfold Un.places;split<;>simp
    omega
  have h9:=h8 L.undos;have h0:L.roots.length=L.reads.length+L.keeps.length+L.holds.length+(L.undos.flatMap Un.places).length:=by unfold Lg.roots;simp only[List.length_append,List.length_map]
  omega
 have hsl:=h.slcs
 have HPl:=Lib.hid (fun (w':World) (hw:Below w.heap.size w w') (m:Nat) (a:Addr) (ha:(lAddr vr vk vh vu L)[m]?=some a) =>
  show w'.cell? a=(L.roots[m]?).map nv∧a.spot=none from by
   have hp:=LgIn.place L.roots rfl (by rw[put_roots hk];exact h.below hw) ha
   exact⟨hp.1,hp.2.1⟩)
 have HKd:=Lib.hid (fun (w':World) (hw:Below w.heap.size w w')=>(h.below hw).kinds)
 have HBl:=Lib.hid (fun (w':World) (hw:Below w.heap.size w w')=>h.blk.below hw h.blk.lt)
 have HLt:=Lib.hid h.blk.lt;have HN:=Lib.hid hN;have n1:L.reads.length≤200:=by have:=hk.ok.r;have:=hk.ok.mr;omega
 have n2:L.keeps.length≤200:=by have:=hk.ok.k;have:=hk.ok.mr;omega
 have n3:L.holds.length≤200:=by have:=hk.ok.h;have:=hk.ok.mu;omega
 have n4:L.undos.length≤200:=by have:=hk.ok.u;have:=hk.ok.mu;omega
 have HSl:=Lib.hid hsl;have HNs:=Lib.hid (And.intro n1 (And.intro n2 (And.intro n3 n4)));clear h hN hsl n1 n2 n3 n4;refine (callsIn_wide (n:=3)).1 ?_;refine callsIn_of_wp_marks Tryz.func65 rfl trivial ?_ rfl;simp only[Tryz.ntmps65,List.size_toArray,List.length_cons,List.length_nil,Nat.reduceAdd,Nat.reduceSub,Array.replicate_succ,Array.replicate_zero,List.push_toArray,List.append_toArray,List.nil_append,List.cons_append];gi_wp2_with (refine⟨trivial,?_⟩;gi_at_call 128;refine (callsIn_wide.2 (places_any b _)).mono ?_;rintro e w2 ⟨rfl,rfl⟩);obtain⟨W0,hW0⟩:∃ W0,W0=(w.alloc (.cells #[.slice none 0 0] 25)).alloc (.cells #[ptr b] 105):=⟨_,rfl⟩;have hb0:Below w.heap.size w W0:=by rw[hW0];exact balloc (balloc (bsame _) _) _
 have jR0:Blk W0 w.heap.size #[.slice none 0 0] 25:=by rw[hW0];exact (Blk.new w _ _).alloc _
 have jL0:Blk W0 (w.heap.size+1) #[ptr b] 105:=by rw[hW0];exact Blk.new_at _ _ _ _ _ (by simp) rfl
 try rw[←hW0]
 clear hW0;refine range_outer (gf:=191) (lb:=#[ptr (w.heap.size+1)]) (by simp[go_sem]) (enters_of Tryz.func191 (by kernel_rfl) rfl) ?_
 intro fn W1 R hW1 hR;obtain⟨D,hD⟩:∃ D,D=W0.heap.size:=⟨_,rfl⟩;have hb12:Below W0.heap.size W0 W1:=by rw[hW1];exact balloc (balloc (bsame _) _) _
 have hL1:W1.heap[D+1]?=some (.loop R):=by rw[hW1,hD];have:=World.alloc_heap_new (W0.alloc (.deferred (some []))) (.loop R);rwa [World.size_alloc]at this
 have hD1:W1.heap[D]?=some (.deferred (some [])):=by rw[hW1,hD];exact (Below.heap_alloc _ _ _ (by simp)).trans (World.alloc_heap_new W0 _)
 have hRs:R.params.size=1:=by rw[hR];rfl
 rw[←hD];have hDw:w.heap.size≤D:=by rw[hD];exact hb0.size
 have jL1:=jL0.below hb12 jL0.lt;have jR1:=jR0.below hb12 jR0.lt;have hb1:Below w.heap.size w W1:=btrans hb0 hb12;have jB1:=HBl.out W1 hb1;have hDz:D+1<W1.heap.size:=(Array.getElem?_eq_some_iff.1 hL1).1;have HR:=Lib.hid hR;clear hR hW1 hb12 jL0 jR0 hb0 hD;refine places_walk (fun bA m wr=>∃ o1 v,RoJ w b L vr vk vh vu D (w.heap.size+1) w.heap.size R bA m o1 v wr) hRs HNs.out.1 HNs.out.2.1 HNs.out.2.2.1 HNs.out.2.2.2 HSl.out.1 HSl.out.2.1 HSl.out.2.2.1 HSl.out.2.2.2 jL1 jB1 ?_ ?_ ?_ ?_
 ·intro W2 bA hb hbA jA
  refine⟨ext o00 w.heap.size tB,.slice none 0 0,(Stp.of_below (btrans hb1 hb)).ext _ _ (Nat.le_refl _),(hb.block _ hDz).trans hL1,(hb.block _ (by omega)).trans hD1,jA,jL1.below hb jL1.lt,jR1.below hb jR1.lt,Row.nil _ _ _ _ _,ext_ge (by omega),ext_ge (by omega),ext_ge (by have:=hb1.size;omega),ext_ge (by omega),ext_ge (Nat.le_refl _)⟩
 ·rintro bA m wr ⟨o1,v,h⟩
  have hb:=T2.below h.sp;exact⟨h.jA,h.jL,HBl.out wr hb,h.hL,HKd.out wr hb⟩
 ·rintro bA m wr a T ⟨o1,v,h⟩ ha hT
  have hb:=T2.below h.sp;obtain⟨hc,hsp⟩:=HPl.out wr hb m a ha;obtain⟨g,ax,asp⟩:=a;simp only at hsp;subst hsp;have hm:m<L.roots.length:=by rw[←lAddr_len vr vk vh vu L];exact (List.getElem?_eq_some_iff.1 ha).1
  obtain⟨x,hx⟩:∃ x,L.roots[m]?=some x:=⟨_,List.getElem?_eq_getElem hm⟩;rw[hx]at hc;replace hc:wr.cell? ⟨g,ax,none⟩=some (.int .i64 x):=hc;have hN9:=HN.out;have hml:m+1≤maxLen:=by simp only[maxLen];omega
  have hmb:(m+1)*8≤140737488355328:=by omega
  have htk:=take_snoc_nv hx;obtain⟨Post,hPost⟩:∃ Post:Ending→World→Prop,Post=fun e W'=>e=.returned (.bool true)∧∃ o1 v,RoJ w b L vr vk vh vu D (w.heap.size+1) w.heap.size R bA (m+1) o1 v W':=⟨_,rfl⟩
  rw[←hPost,hT];have hst:R.state=.ready:=by rw[HR.out]
  have hpe:R.pending=none:=by rw[HR.out]
  have HST:=Lib.hid hst;have HPE:=Lib.hid hpe;have HPost:=Lib.hid hPost;have HTk:=Lib.hid htk;clear hst hpe hPost hT htk hx hm ha hN9;rw[HR.out];refine roundIn_of_wpIn trivial ?_;gi_wp2;refine begin_then h.hL HST.out ?_;intro W3 hW3 kL3;have h3:RoJ w b L vr vk vh vu D (w.heap.size+1) w.heap.size { R with state:=.busy } bA m o1 v W3:=by rw[hW3];exact h.put hDw _
  have hc3:W3.cell? ⟨g,ax,none⟩=some (.int .i64 x):=by
   have hg:g≠D+1:=fun e=>by rw[e]at hc;simp[World.cell?,h.hL]at hc
   rw[hW3];have:=World.putObj_heap_other (w:=wr) (o:=.loop { R with state:=.busy }) hg;simp only[World.cell?,this]at hc ⊢;exact hc
  clear hW3 kL3 h hc
  have hend:=Lib.hid (fun (W4:World) (o4:Own) (v4:Value) (hA4:RoJ w b L vr vk vh vu D (w.heap.size+1) w.heap.size { R with state:=.busy } bA (m+1) o4 v4 W4) =>
   show ∃ v w5,(Instr.endRound (D+1) none).run Tryz.prog W4=.ok v w5∧Post (.returned v) w5 from by
    refine end_go hA4.hL HST.out HPE.out ?_;intro W5 hW5 _;rw[HPost.out];exact⟨rfl,o4,v4,by rw[hW5];exact hA4.put hDw R⟩)
  obtain⟨pa,cp,rfl⟩:=h3.row.slc;have cR:W3.cell? ⟨w.heap.size,0,none⟩=some (.slice pa m cp):=h3.jR.cell 0;obtain⟨iI,hi,hsI,hyI,hzI⟩:=info_int;have h4:=h3.below (w2:=W3.drew.alloc (.cells #[.int .i64 x] 3)) (balloc (bdrew (bsame _)) _)
  have HL:=Lib.hid (fun (v':Value) (w':World) (o2:Own) (hrow:Row w' o2 tR 3 1 v' (m+1) ((L.roots.take m).map nv++[.int .i64 x])) (hst:Stp (fun u=>u=tR) o1 o2 (W3.drew.alloc (.cells #[.int .i64 x] 3)) w') =>
   let h:=h4.appended hst hrow HTk.out
   And.intro h.1 (hend.out _ _ _ h.2))
  have H4r:=Lib.hid h4.row;have sR3:w.heap.size<W3.heap.size:=h3.jR.lt;have cR4:(W3.alloc (.cells #[.int .i64 x] 3)).cell? ⟨w.heap.size,0,none⟩=some (.slice pa m cp):=(h3.jR.alloc _).cell 0;clear h3 h4 hend;gi_wp2;refine wpIn_region_orders (by kernel_rfl) [[0,1,2,3,4,5,6],[1,0,2,3,4,5,6],[1,2,0,3,4,5,6],[1,2,3,0,4,5,6],[1,2,3,4,0,5,6]] (by kernel_rfl) (by decide) ?_
  intro is his;simp only[List.mem_cons,List.not_mem_nil,or_false]at his;rcases his with rfl|rfl|rfl|rfl|rfl
  all_goals simp only[pickO,List.drop_succ_cons,List.drop_zero]
  all_goals gi_wp2_with (first
   | (gi_at_builtin;refine wpListIn_append_row _ rfl _ _ _ rfl 3 iI _ 1 8 Tryz.underlying25 hi hzI hsI hyI rfl (by decide) o1 tR _ m _ rfl H4r.out ⟨W3.heap.size,0,none⟩ 1 1 [.int .i64 x] rfl rfl (news_one (Blk.new W3.drew _ _)) one_i64 hml hmb ?_;intro v' w' hrow hst;obtain⟨pa',cp',rfl⟩:=hrow.slc;obtain⟨j5,HH5⟩:=HL.out _ _ _ hrow hst;have cR5:w'.cell? ⟨w.heap.size,0,none⟩=some (.slice pa m cp):=j5.cell 0;have zR5:=j5.free 0;have sR5:=j5.lt;replace HH5:=Lib.hid HH5;clear hrow hst j5)
   | fail)
  all_goals exact HH5.out
 ·rintro bA wr ⟨o1,v,h⟩
  rw[lAddr_len]at h;have hst:R.state≠.busy:=by rw[HR.out];simp
  have hpe:R.pending=none:=by rw[HR.out]
  refine loop_end h.hL hst ?_;intro W4 hW4;have h4:RoJ w b L vr vk vh vu D (w.heap.size+1) w.heap.size { R with state:=.exhausted } bA L.roots.length o1 v W4:=by rw[hW4];exact h.put hDw _
  rw[hpe];dsimp only;have HH:=Lib.hid h4;have cR:W4.cell? ⟨w.heap.size,0,none⟩=some v:=h4.jR.cell 0;obtain⟨pa,cp,rfl⟩:=h4.row.slc;clear h h4 hW4 hst hpe HR hL1 hD1 jL1 jR1 jB1 hb1 HBl HPl HKd;gi_wp2;refine⟨by simp,.inl ⟨_,_,rfl,run_takeDeferred HH.out.hD,?_⟩⟩
  refine⟨.slice pa L.roots.length cp,by simp[results,Tryz.results65,go_sem],.slice pa L.roots.length cp,rfl,?_,?_⟩
  ·have hr:=HH.out.row
   rw[List.take_length]at hr;have hs:=HH.out.sp;refine Row.mixed hs (hr.putd HH.out.hD _)
  ·exact bput (T2.below HH.out.sp) hDw _
def lgTag (id k:Nat)(t:Tag):Prop:=t.1=id∧k+1≤t.2∧t.2≤k+4
def IntsT (T:Tag→Prop)(w:World)(o:Own)(v:Value)(l:List Nat):Prop:=
 ∃ a c,v=.slice a l.length c∧∀ (j x:Nat),l[j]?=some x→∃ g off,a=some ⟨g,off,none⟩∧g<w.heap.size∧¬T (o g)∧w.cell? ⟨g,off+j,none⟩=some (nv x)
structure CnJ (w:World)(b:Nat)(vr vk v:Value)(D bL bP bN:Nat)(R:Loop)(bA m:Nat)(wr:World):Prop where
 bl:Below w.heap.size w wr
 hL:wr.heap[D+1]?=some (.loop R)
 hD:wr.heap[D]?=some (.deferred (some []))
 jA:Blk wr bA #[vr,vk] 25
 jL:Blk wr bL #[ptr b] 105
 jP:Blk wr bP #[v] 25
 jN:Blk wr bN #[.int .i64 m] 3
structure PuJ (w:World)(o:Own)(id k b:Nat)(L:Lg)(ps:List Nat)(vr vk vh vu v:Value)(D0 D bL bP bI:Nat)(R:Loop)(o1:Own)(bA m:Nat)(wr:World):Prop where
 sp:Stp (lgTag id k) o o1 w wr
 lg:LgIn wr o1 id k b (L.put (ps.take m++L.roots.drop m)) vr vk vh vu
 hL:wr.heap[D+1]?=some (.loop R)
 hD:wr.heap[D]?=some (.deferred (some []))
 h0:wr.heap[D0]?=some (.deferred (some []))
 jA:Blk wr bA #[vr,vk] 25
 jL:Blk wr bL #[ptr b] 105
 jP:Blk wr bP #[v] 25
 jI:Blk wr bI #[.int .i64 m] 3
 tL:o1 (D+1)=(id+1,0)
 tD:o1 D=(id+1,0)
 t0:o1 D0=(id+1,0)
 tA:o1 bA=(id+1,0)
 tl:o1 bL=(id+1,0)
 tP:o1 bP=(id+1,0)
 tI:o1 bI=(id+1,0)
theorem box_lg (id k:Nat):¬lgTag id k (id+1,0):=fun h=>by have:=h.1;simp at this
section
variable {w : World} {b : Nat} {L : Lg} {vr vk vh vu v : Value} {D D0 bL bP bN bI : Nat} {R : Loop} {bA m : Nat} {wr w2 : World} {o o1 : Own} {id k : Nat} {ps : List Nat}
theorem CnJ.put (h:CnJ w b vr vk v D bL bP bN R bA m wr)(hw:w.heap.size≤D)(R':Loop):CnJ w b vr vk v D bL bP bN R' bA m (wr.putObj (D+1) (.loop R')):=by
 have n1:bA≠D+1:=fun e=>by have:=h.jA;unfold Blk at this;rw[e,h.hL]at this;cases this
 have n2:bL≠D+1:=fun e=>by have:=h.jL;unfold Blk at this;rw[e,h.hL]at this;cases this
 have n3:bP≠D+1:=fun e=>by have:=h.jP;unfold Blk at this;rw[e,h.hL]at this;cases this
 have n4:bN≠D+1:=fun e=>by have:=h.jN;unfold Blk at this;rw[e,h.hL]at this;cases this
 exact⟨bput h.bl (by omega) _,World.putObj_heap_same (Array.getElem?_eq_some_iff.1 h.hL).1,(World.putObj_heap_other (by omega)).trans h.hD,h.jA.put n1,h.jL.put n2,h.jP.put n3,h.jN.put n4⟩
theorem CnJ.step (h:CnJ w b vr vk v D bL bP bN R bA m wr)(hw:w.heap.size≤bN):CnJ w b vr vk v D bL bP bN R bA (m+1) (wr.setCell ⟨bN,0,none⟩ (.int .i64 ((m:Int)+1))):=by
 have n1:bA≠bN:=fun e=>by have h1:=h.jA;have h2:=h.jN;unfold Blk at h1 h2;rw[e,h2]at h1;simp at h1
 have n2:bL≠bN:=fun e=>by have h1:=h.jL;have h2:=h.jN;unfold Blk at h1 h2;rw[e,h2]at h1;simp at h1
 have n3:bP≠bN:=fun e=>by have h1:=h.jP;have h2:=h.jN;unfold Blk at h1 h2;rw[e,h2]at h1;simp at h1
 have n4:D≠bN:=fun e=>by have h2:=h.jN;have h1:=h.hD;unfold Blk at h2;rw[e,h2]at h1;cases h1
 have n5:D+1≠bN:=fun e=>by have h2:=h.jN;have h1:=h.hL;unfold Blk at h2;rw[e,h2]at h1;cases h1
 exact⟨bset h.bl hw _,(Below.heap_setCell _ _ _ _ n5).trans h.hL,(Below.heap_setCell _ _ _ _ n4).trans h.hD,h.jA.set_other n1 _,h.jL.set_other n2 _,h.jP.set_other n3 _,h.jN.set 0 _⟩
theorem PuJ.put (h:PuJ w o id k b L ps vr vk vh vu v D0 D bL bP bI R o1 bA m wr)(hw:w.heap.size≤D)(_:L.fit)(R':Loop):PuJ w o id k b L ps vr vk vh vu v D0 D bL bP bI R' o1 bA m (wr.putObj (D+1) (.loop R')):=by
 have n1:bA≠D+1:=fun e=>by have:=h.jA;unfold Blk at this;rw[e,h.hL]at this;cases this
 have n2:bL≠D+1:=fun e=>by have:=h.jL;unfold Blk at this;rw[e,h.hL]at this;cases this
 have n3:bP≠D+1:=fun e=>by have:=h.jP;unfold Blk at this;rw[e,h.hL]at this;cases this
 have n4:bI≠D+1:=fun e=>by have:=h.jI;unfold Blk at this;rw[e,h.hL]at this;cases this
 have n5:D0≠D+1:=fun e=>by have:=h.h0;rw[e,h.hL]at this;cases this
 have s1:Stp (fun t=>t=(id+1,0)) o1 o1 wr (wr.putObj (D+1) (.loop R')):=(Stp.refl _ o1 wr).put (by rw[h.tL]) _
 exact⟨h.sp.put_new (by omega) _,h.lg.stp s1 (fun j _ e=>by simp at e),World.putObj_heap_same (Array.getElem?_eq_some_iff.1 h.hL).1,(World.putObj_heap_other (by omega)).trans h.hD,(World.putObj_heap_other n5).trans h.h0,h.jA.put n1,h.jL.put n2,h.jP.put n3,h.jI.put n4,h.tL,h.tD,h.t0,h.tA,h.tl,h.tP,h.tI⟩
theorem PuJ.step (h:PuJ w o id k b L ps vr vk vh vu v D0 D bL bP bI R o1 bA m wr)(hq:ps.length=L.roots.length)(hw:w.heap.size≤bI){g ax x:Nat}(ha:(lAddr vr vk vh vu L)[m]?=some ⟨g,ax,none⟩)(hx:ps[m]?=some x) :
  g≠bI∧(∃ u,wr.cell? ⟨g,ax,none⟩=some u)∧wr.frozen? ⟨g,ax,none⟩=false∧g<wr.heap.size∧PuJ w o id k b L ps vr vk vh vu v D0 D bL bP bI R o1 bA (m+1) ((wr.setCell ⟨g,ax,none⟩ (.int .i64 x)).setCell ⟨bI,0,none⟩ (.int .i64 ((m:Int)+1))):=by
 have hm:m<L.roots.length:=by rw[←lAddr_len vr vk vh vu L];exact (List.getElem?_eq_some_iff.1 ha).1
 have hql:(ps.take m++L.roots.drop m).length=L.roots.length:=by rw[List.length_append,List.length_take,List.length_drop];omega
 obtain⟨c1,_,c3,c4,⟨j,j1,j2,j3⟩,c6⟩:=LgIn.place (ps.take m++L.roots.drop m) hql h.lg ha;simp only at c3 j3;have hset:(ps.take m++L.roots.drop m).set m x=ps.take (m+1)++L.roots.drop (m+1):=take_set_drop ps L.roots m x hx hm;have hl:=c6 x;rw[hset]at hl;have tg:lgTag id k (o1 g):=by rw[j3];exact⟨rfl,by simp only;omega,by simp only;omega⟩
 have no:∀ c,o1 c=(id+1,0)→c≠g:=fun c hc e=>box_lg id k (by rw[←hc,e];exact tg)
 have n0:=no _ h.tI;have s1:Stp (lgTag id k) o1 o1 wr (wr.setCell ⟨g,ax,none⟩ (.int .i64 x)):=(Stp.refl _ o1 wr).setCell tg _;have s2:Stp (fun t=>t=(id+1,0)) o1 o1 (wr.setCell ⟨g,ax,none⟩ (.int .i64 x)) ((wr.setCell ⟨g,ax,none⟩ (.int .i64 x)).setCell ⟨bI,0,none⟩ (.int .i64 ((m:Int)+1))):=(Stp.refl _ o1 _).setCell (by show o1 bI=_;exact h.tI) _
 have nI:∀ {c:Nat}{cs:Array Value}{t:TypeId},Blk wr c cs t→(cs.size≠1∨t≠3)→c≠bI:=fun hc hne e=>by
  have h2:=h.jI;unfold Blk at hc h2;rw[e,h2]at hc;rcases hne with hne|hne
  ·injection hc with hc;injection hc with hc hc2;rw[←hc]at hne;simp at hne
  ·injection hc with hc;injection hc with hc hc2;exact hne hc2.symm
 have nA:=nI h.jA (.inl (by simp))
 have nL:=nI h.jL (.inr (by decide))
 have nP:=nI h.jP (.inr (by decide))
 have nD:D≠bI:=fun e=>by have h2:=h.jI;have h1:=h.hD;unfold Blk at h2;rw[e,h2]at h1;cases h1
 have nE:D+1≠bI:=fun e=>by have h2:=h.jI;have h1:=h.hL;unfold Blk at h2;rw[e,h2]at h1;cases h1
 have nF:D0≠bI:=fun e=>by have h2:=h.jI;have h1:=h.h0;unfold Blk at h2;rw[e,h2]at h1;cases h1
 refine⟨n0.symm,⟨_,by rw[c1,List.getElem?_eq_getElem (by rw[hql];exact hm)];rfl⟩,c4,c3,?_⟩
 refine⟨(h.sp.trans s1).setCell_new hw _,hl.stp s2 (fun j _ e=>by simp at e),?_,?_,?_,?_,?_,?_,?_,h.tL,h.tD,h.t0,h.tA,h.tl,h.tP,h.tI⟩
 ·exact (Below.heap_setCell _ _ _ _ nE).trans ((Below.heap_setCell _ _ _ _ (no _ h.tL)).trans h.hL)
 ·exact (Below.heap_setCell _ _ _ _ nD).trans ((Below.heap_setCell _ _ _ _ (no _ h.tD)).trans h.hD)
 ·exact (Below.heap_setCell _ _ _ _ nF).trans ((Below.heap_setCell _ _ _ _ (no _ h.t0)).trans h.h0)
 ·exact (h.jA.set_other (no _ h.tA) _).set_other nA _
 ·exact (h.jL.set_other (no _ h.tl) _).set_other nL _
 ·exact (h.jP.set_other (no _ h.tP) _).set_other nP _
 ·exact (h.jI.set_other n0 _).set 0 _
end
theorem lg_bound {L:Lg}(hk:L.fit):L.roots.length≤1000:=by
 have h2:=hk.ok.r;have h3:=hk.ok.k;have h4:=hk.ok.h;have h5:=hk.ok.u;have h6:=hk.ok.mr;have h7:=hk.ok.mu;have h8:∀ us:List Un,(us.flatMap Un.places).length≤us.length*2:=fun us=>by
  induction us with
  | nil=>simp
  | cons u us ih =>
   rw[List.flatMap_cons,List.length_append,List.length_cons];have:u.places.length≤2:=by unfold Un.places;split<;>simp
   omega
 have h9:=h8 L.undos;have h0:L.roots.length=L.reads.length+L.keeps.length+L.holds.length+(L.undos.flatMap Un.places).length:=by unfold Lg.roots;simp only[List.length_append,List.length_map]
 omega
theorem wrap_nat (k:Nat)(h:k≤4611686018427387904):wrap64 ((k:Int)+1)=(k:Int)+1∧IntKind.i64.wrap ((k:Int)+1)=(k:Int)+1:=by
 have h1:(-9223372036854775808:Int)≤(k:Int)+1∧(k:Int)+1≤9223372036854775807:=by omega
 exact⟨IntWalk.wrap64_in _ h1,IntWalk.i64_in _ h1⟩
theorem replace_log {w:World} {o:Own} {id k b:Nat} {L:Lg} {vr vk vh vu v:Value} (h:LgIn w o id k b L vr vk vh vu) (hk:L.fit) {ps:List Nat} (hv:IntsT (lgTag id k) w o v ps) (hn:ps.length=L.roots.length) :
  Calls Tryz.prog 66 #[ptr b,v] w fun e w'=>e=.returned (.bool true)∧∃ o',LgIn w' o' id k b (L.put ps) vr vk vh vu∧Stp (lgTag id k) o o' w w':=by
 have hN:=lg_bound hk;obtain⟨pa,cp,rfl,hps⟩:=hv;have hsl:=h.slcs;have HKd:=Lib.hid (fun (w':World) (hw:Below w.heap.size w w')=>(h.below hw).kinds)
 have HBl:=Lib.hid (fun (w':World) (hw:Below w.heap.size w w')=>h.blk.below hw h.blk.lt)
 have n1:L.reads.length≤200:=by have:=hk.ok.r;have:=hk.ok.mr;omega
 have n2:L.keeps.length≤200:=by have:=hk.ok.k;have:=hk.ok.mr;omega
 have n3:L.holds.length≤200:=by have:=hk.ok.h;have:=hk.ok.mu;omega
 have n4:L.undos.length≤200:=by have:=hk.ok.u;have:=hk.ok.mu;omega
 have HSl:=Lib.hid hsl;have HNs:=Lib.hid (And.intro n1 (And.intro n2 (And.intro n3 n4)));have HN:=Lib.hid hN;have HPs:=Lib.hid hps;have Hn:=Lib.hid hn;have HH:=Lib.hid h;have HK:=Lib.hid hk;obtain⟨n,hnn⟩:∃ n,n=ps.length:=⟨_,rfl⟩;rw[←hnn];have HNN:=Lib.hid hnn;clear h hk hN hsl n1 n2 n3 n4 hps hn hnn;refine (callsIn_wide (n:=3)).1 ?_;refine callsIn_of_wp_marks Tryz.func66 rfl trivial ?_ rfl;simp only[Tryz.ntmps66,List.size_toArray,List.length_cons,List.length_nil,Nat.reduceAdd,Nat.reduceSub,Array.replicate_succ,Array.replicate_zero,List.push_toArray,List.append_toArray,List.nil_append,List.cons_append];gi_wp2_with (refine⟨trivial,?_⟩;gi_at_call 128;refine (callsIn_wide.2 (places_any b _)).mono ?_;rintro e w2 ⟨rfl,rfl⟩);obtain⟨W0,hW0⟩:∃ W0,W0=((w.alloc (.cells #[.slice pa n cp] 25)).alloc (.cells #[.int .i64 0] 3)).alloc (.cells #[ptr b] 105):=⟨_,rfl⟩;have hb0:Below w.heap.size w W0:=by rw[hW0];exact balloc (balloc (balloc (bsame _) _) _) _
 have jP0:Blk W0 w.heap.size #[.slice pa n cp] 25:=by rw[hW0];exact ((Blk.new w _ _).alloc _).alloc _
 have jN0:Blk W0 (w.heap.size+1) #[.int .i64 0] 3:=by rw[hW0];exact (Blk.new_at _ _ _ _ _ (by simp) rfl).alloc _
 have jL0:Blk W0 (w.heap.size+1+1) #[ptr b] 105:=by rw[hW0];exact Blk.new_at _ _ _ _ _ (by simp) rfl
 rw[←hW0];clear hW0;refine range_outer (gf:=191) (lb:=#[ptr (w.heap.size+1+1)]) (by simp[go_sem]) (enters_of Tryz.func191 (by kernel_rfl) rfl) ?_
 intro fn W1 R hW1 hR;obtain⟨D,hD⟩:∃ D,D=W0.heap.size:=⟨_,rfl⟩;have hb12:Below W0.heap.size W0 W1:=by rw[hW1];exact balloc (balloc (bsame _) _) _
 have hL1:W1.heap[D+1]?=some (.loop R):=by rw[hW1,hD];have:=World.alloc_heap_new (W0.alloc (.deferred (some []))) (.loop R);rwa [World.size_alloc]at this
 have hD1:W1.heap[D]?=some (.deferred (some [])):=by rw[hW1,hD];exact (Below.heap_alloc _ _ _ (by simp)).trans (World.alloc_heap_new W0 _)
 have hRs:R.params.size=1:=by rw[hR];rfl
 rw[←hD];have hDw:w.heap.size≤D:=by rw[hD];exact hb0.size
 have jL1:=jL0.below hb12 jL0.lt;have jP1:=jP0.below hb12 jP0.lt;have jN1:=jN0.below hb12 jN0.lt;have hb1:Below w.heap.size w W1:=btrans hb0 hb12;have jB1:=HBl.out W1 hb1;have hDz:D+1<W1.heap.size:=(Array.getElem?_eq_some_iff.1 hL1).1;have HR:=Lib.hid hR;clear hR hW1 hb12 jL0 jP0 jN0 hb0 hD;refine places_walk (fun bA m wr=>CnJ w b vr vk (.slice pa n cp) D (w.heap.size+1+1) w.heap.size (w.heap.size+1) R bA m wr) hRs HNs.out.1 HNs.out.2.1 HNs.out.2.2.1 HNs.out.2.2.2 HSl.out.1 HSl.out.2.1 HSl.out.2.2.1 HSl.out.2.2.2 jL1 jB1 ?_ ?_ ?_ ?_
 ·intro W2 bA hb hbA jA
  exact⟨btrans hb1 hb,(hb.block _ hDz).trans hL1,(hb.block _ (by omega)).trans hD1,jA,jL1.below hb jL1.lt,jP1.below hb jP1.lt,jN1.below hb jN1.lt⟩
 ·rintro bA m wr h
  exact⟨h.jA,h.jL,HBl.out wr h.bl,h.hL,HKd.out wr h.bl⟩
 ·rintro bA m wr a T h ha hT
  have hm:m<L.roots.length:=by rw[←lAddr_len vr vk vh vu L];exact (List.getElem?_eq_some_iff.1 ha).1
  obtain⟨hw1,hw2⟩:=wrap_nat m (by have:=HN.out;omega)
  obtain⟨Post,hPost⟩:∃ Post:Ending→World→Prop,Post=fun e W'=>e=.returned (.bool true)∧CnJ w b vr vk (.slice pa n cp) D (w.heap.size+1+1) w.heap.size (w.heap.size+1) R bA (m+1) W':=⟨_,rfl⟩
  rw[←hPost,hT];have hst:R.state=.ready:=by rw[HR.out]
  have hpe:R.pending=none:=by rw[HR.out]
  have HST:=Lib.hid hst;have HPE:=Lib.hid hpe;have HPost:=Lib.hid hPost;clear hst hpe hPost hT ha hm;rw[HR.out];refine roundIn_of_wpIn trivial ?_;gi_wp2;refine begin_then h.hL HST.out ?_;intro W3 hW3 kL3;have h3:CnJ w b vr vk (.slice pa n cp) D (w.heap.size+1+1) w.heap.size (w.heap.size+1) { R with state:=.busy } bA m W3:=by rw[hW3];exact h.put hDw _
  clear hW3 kL3 h;have h4:=h3.step (by omega)
  have hend:=Lib.hid (show ∃ v w5,(Instr.endRound (D+1) none).run Tryz.prog (W3.setCell ⟨w.heap.size+1,0,none⟩ (.int .i64 ((m:Int)+1)))=.ok v w5∧Post (.returned v) w5 from by
    refine end_go h4.hL HST.out HPE.out ?_;intro W5 hW5 _;rw[HPost.out];exact⟨rfl,by rw[hW5];exact h4.put hDw R⟩)
  have cN:W3.cell? ⟨w.heap.size+1,0,none⟩=some (.int .i64 m):=h3.jN.cell 0;have zN:=h3.jN.free 0;have sN:=h3.jN.lt;clear h3 h4;gi_wp2;exact hend.out
 ·rintro bA wr h
  rw[lAddr_len]at h;have hst:R.state≠.busy:=by rw[HR.out];simp
  have hpe:R.pending=none:=by rw[HR.out]
  refine loop_end h.hL hst ?_;intro W4 hW4;have h4:CnJ w b vr vk (.slice pa n cp) D (w.heap.size+1+1) w.heap.size (w.heap.size+1) { R with state:=.exhausted } bA L.roots.length W4:=by rw[hW4];exact h.put hDw _
  rw[hpe];dsimp only;have cN:W4.cell? ⟨w.heap.size+1,0,none⟩=some (.int .i64 L.roots.length):=h4.jN.cell 0;have cP:W4.cell? ⟨w.heap.size,0,none⟩=some (.slice pa n cp):=h4.jP.cell 0;have sN:=h4.jN.lt;have hne:((L.roots.length:Int) != (n:Int))=false:=by rw[HNN.out,Hn.out];exact bne_self_eq_false' _
  have hb4:=h4.bl;have hD4:=Lib.hid h4.hD;have jP4:=h4.jP;have hDl:D<W4.heap.size:=(Array.getElem?_eq_some_iff.1 h4.hD).1;clear h h4 hW4 hst hpe HR hL1 hD1 jL1 jP1 jN1 jB1 hb1 hDz hRs;clear R;gi_wp2_with (refine⟨trivial,?_⟩;gi_at_call 128;refine (callsIn_wide.2 (places_any b _)).mono ?_;rintro e w2 ⟨rfl,rfl⟩);obtain⟨W0,hW0⟩:∃ W0,W0=(W4.alloc (.cells #[.int .i64 0] 3)).alloc (.cells #[ptr b] 105):=⟨_,rfl⟩;obtain⟨bI,hbI⟩:∃ bI,bI=W4.heap.size:=⟨_,rfl⟩;have hwI:w.heap.size≤bI:=by rw[hbI];exact hb4.size
  have hb40:Below W4.heap.size W4 W0:=by rw[hW0];exact balloc (balloc (bsame _) _) _
  have jI0:Blk W0 bI #[.int .i64 0] 3:=by rw[hW0,hbI];exact (Blk.new W4 _ _).alloc _
  have jL0:Blk W0 (bI+1) #[ptr b] 105:=by rw[hW0,hbI];exact Blk.new_at _ _ _ _ _ (by simp) rfl
  have hD0:=Lib.hid ((hb40.block _ hDl).trans hD4.out);have jP0:=jP4.below hb40 jP4.lt;have hb0:=btrans hb4 hb40;rw[←hW0,←hbI];clear hW0 hbI jP4 hD4 hb40 hb4 cN cP sN hne HBl HKd;refine range_outer (gf:=191) (lb:=#[ptr (bI+1)]) (by simp[go_sem]) (enters_of Tryz.func191 (by kernel_rfl) rfl) ?_
  intro fn W1 R hW1 hR;obtain⟨E,hE⟩:∃ E,E=W0.heap.size:=⟨_,rfl⟩;have hb12:Below W0.heap.size W0 W1:=by rw[hW1];exact balloc (balloc (bsame _) _) _
  have hL1:W1.heap[E+1]?=some (.loop R):=by rw[hW1,hE];have:=World.alloc_heap_new (W0.alloc (.deferred (some []))) (.loop R);rwa [World.size_alloc]at this
  have hD1:W1.heap[E]?=some (.deferred (some [])):=by rw[hW1,hE];exact (Below.heap_alloc _ _ _ (by simp)).trans (World.alloc_heap_new W0 _)
  have hRs:R.params.size=1:=by rw[hR];rfl
  rw[←hE];have hEw:w.heap.size≤E:=by rw[hE];exact hb0.size
  have hDE:D<E:=by rw[hE];exact (Array.getElem?_eq_some_iff.1 hD0.out).1
  have hD01:=(hb12.block _ (Array.getElem?_eq_some_iff.1 hD0.out).1).trans hD0.out;have jL1:=jL0.below hb12 jL0.lt;have jP1:=jP0.below hb12 jP0.lt;have jI1:=jI0.below hb12 jI0.lt;have hb1:Below w.heap.size w W1:=btrans hb0 hb12;have jB1:=(HH.out.below hb1).blk;have hEz:E+1<W1.heap.size:=(Array.getElem?_eq_some_iff.1 hL1).1;have HR:=Lib.hid hR;clear hR hW1 hb12 jL0 jP0 jI0 hb0 hE hD0;refine places_walk (fun bA m wr=>∃ o1,PuJ w o id k b L ps vr vk vh vu (.slice pa n cp) D E (bI+1) w.heap.size bI R o1 bA m wr) hRs HNs.out.1 HNs.out.2.1 HNs.out.2.2.1 HNs.out.2.2.2 HSl.out.1 HSl.out.2.1 HSl.out.2.2.1 HSl.out.2.2.2 jL1 jB1 ?_ ?_ ?_ ?_
  ·intro W2 bA hb hbA jA
   have hb2:=btrans hb1 hb;have hx:∀ c,w.heap.size≤c→ext o w.heap.size (id+1,0) c=(id+1,0):=fun c hc=>ext_ge hc
   have hl:LgIn W2 (ext o w.heap.size (id+1,0)) id k b L vr vk vh vu:=HH.out.stp (T:=fun _=>False) ((Stp.of_below hb2).ext _ _ (Nat.le_refl _)) fun _ _ h=>h
   refine⟨ext o w.heap.size (id+1,0),(Stp.of_below hb2).ext _ _ (Nat.le_refl _),?_,(hb.block _ hEz).trans hL1,(hb.block _ (by omega)).trans hD1,(hb.block _ (by omega)).trans hD01,jA,jL1.below hb jL1.lt,jP1.below hb jP1.lt,jI1.below hb jI1.lt,hx _ (by omega),hx _ (by omega),hx _ (by omega),hx _ (by have:=hb1.size;omega),hx _ (by omega),hx _ (Nat.le_refl _),hx _ hwI⟩
   rw[List.take_zero,List.nil_append,List.drop_zero,put_roots HK.out];exact hl
  ·rintro bA m wr ⟨o1,h⟩
   have hb:=h.lg.blk;exact⟨h.jA,h.jL,hb,h.hL,h.lg.kinds_put⟩
  ·rintro bA m wr a T ⟨o1,h⟩ ha hT
   have hm:m<L.roots.length:=by rw[←lAddr_len vr vk vh vu L];exact (List.getElem?_eq_some_iff.1 ha).1
   obtain⟨x,hx⟩:∃ x,ps[m]?=some x:=⟨_,List.getElem?_eq_getElem (by rw[Hn.out];exact hm)⟩
   obtain⟨g2,off,rfl,hg2,ht2,hc2⟩:=HPs.out m x hx;have hsp:=(LgIn.place (ps.take m++L.roots.drop m) (by rw[List.length_append,List.length_take,List.length_drop,Hn.out];omega) h.lg ha).2.1
   obtain⟨g,ax,asp⟩:=a;simp only at hsp;subst hsp;have hmI:(m:Int)<(n:Int):=Int.ofNat_lt.2 (by rw[HNN.out,Hn.out];exact hm)
   obtain⟨hw1,hw2⟩:=wrap_nat m (by have:=HN.out;omega)
   obtain⟨Post,hPost⟩:∃ Post:Ending→World→Prop,Post=fun e W'=>e=.returned (.bool true)∧∃ o1,PuJ w o id k b L ps vr vk vh vu (.slice (some ⟨g2,off,none⟩) n cp) D E (bI+1) w.heap.size bI R o1 bA (m+1) W':=⟨_,rfl⟩
   rw[←hPost,hT];have hst:R.state=.ready:=by rw[HR.out]
   have hpe:R.pending=none:=by rw[HR.out]
   have HST:=Lib.hid hst;have HPE:=Lib.hid hpe;have HPost:=Lib.hid hPost;have HA:=Lib.hid ha;have HX:=Lib.hid hx;clear hst hpe hPost hT hm ha hx;rw[HR.out];refine roundIn_of_wpIn trivial ?_;gi_wp2;refine begin_then h.hL HST.out ?_;intro W3 hW3 kL3;have h3:PuJ w o id k b L ps vr vk vh vu (.slice (some ⟨g2,off,none⟩) n cp) D E (bI+1) w.heap.size bI { R with state:=.busy } o1 bA m W3:=by rw[hW3];exact h.put hEw HK.out _
   clear hW3 kL3 h;obtain⟨ne,⟨u,hu⟩,hf,hlt,h4⟩:=h3.step Hn.out hwI HA.out HX.out;have hend:=Lib.hid (show ∃ v w5,(Instr.endRound (E+1) none).run Tryz.prog ((W3.setCell ⟨g,ax,none⟩ (.int .i64 x)).setCell ⟨bI,0,none⟩ (.int .i64 ((m:Int)+1)))=.ok v w5∧Post (.returned v) w5 from by
     refine end_go h4.hL HST.out HPE.out ?_;intro W5 hW5 _;rw[HPost.out];exact⟨rfl,o1,by rw[hW5];exact h4.put hEw HK.out R⟩)
   have cI:W3.cell? ⟨bI,0,none⟩=some (.int .i64 m):=h3.jI.cell 0;have zI:=h3.jI.free 0;have sI:=h3.jI.lt;have cP:W3.cell? ⟨w.heap.size,0,none⟩=some (.slice (some ⟨g2,off,none⟩) n cp):=h3.jP.cell 0;have c2:W3.cell? ⟨g2,off+m,none⟩=some (.int .i64 x):=by
    have:=h3.sp.block g2 hg2 ht2;rw[show (Value.int .i64 (x:Int))=nv x from rfl,←hc2];simp only[World.cell?,this]
   have ne2:bI≠g:=fun e=>ne e.symm
   clear h3 h4 hc2;gi_wp2;exact hend.out
  ·rintro bA wr ⟨o1,h⟩
   rw[lAddr_len]at h;have hst:R.state≠.busy:=by rw[HR.out];simp
   have hpe:R.pending=none:=by rw[HR.out]
   refine loop_end h.hL hst ?_;intro W5 hW5;have h5:PuJ w o id k b L ps vr vk vh vu (.slice pa n cp) D E (bI+1) w.heap.size bI { R with state:=.exhausted } o1 bA L.roots.length W5:=by rw[hW5];exact h.put hEw HK.out _
   rw[hpe];dsimp only;have h5h:=Lib.hid h5;clear h h5 hW5 hst hpe HR hL1 hD1 jL1 jP1 jI1 jB1 hb1 hEz hRs;gi_wp2;have n1:D≠E:=by have:=hDE;omega
   refine⟨by simp,.inl ⟨_,_,rfl,run_takeDeferred h5h.out.hD,?_⟩⟩
   refine⟨by simp,.inl ⟨_,_,rfl,run_takeDeferred ((World.putObj_heap_other n1).trans h5h.out.h0),?_⟩⟩
   refine⟨.bool true,by simp[results,Tryz.results66,go_sem],rfl,o1,?_,?_⟩
   ·have hl:=h5h.out.lg
    rw[List.drop_length,List.append_nil,←Hn.out,List.take_length]at hl;have s1:Stp (fun t=>t=(id+1,0)) o1 o1 W5 (W5.putObj E (.deferred none)):=(Stp.refl _ o1 W5).put (by rw[h5h.out.tD]) _
    have s2:Stp (fun t=>t=(id+1,0)) o1 o1 W5 ((W5.putObj E (.deferred none)).putObj D (.deferred none)):=s1.put (by rw[h5h.out.t0]) _
    exact hl.stp s2 fun j _ e=>by simp at e
   ·exact (h5h.out.sp.put_new hEw _).put_new hDw _
end Go.Proofs.YteehgedabdchcaaGreat
namespace Go.Proofs.YteehgedabdchcaaGreat
open Go.RowKit Hp Go.Maps
attribute [local go_sem ↓] Go.wp_at_zero Go.wp_at_succ
theorem nodup_le:∀ (l k:List Nat),l.Nodup→(∀ x ∈ l,x ∈ k)→l.length≤k.length
 | [],_,_,_=>Nat.zero_le _
 | a::l,k,hn,hs=>by
  obtain⟨h1,h2⟩:=List.nodup_cons.1 hn;have ha:=hs a (by simp)
  have:=nodup_le l (k.erase a) h2 fun x hx=>(List.mem_erase_of_ne (fun e=>h1 (by rw[←e];exact hx))).2 (hs x (by simp[hx]))
  rw[List.length_erase_of_mem ha]at this;have hk:0<k.length:=List.length_pos_of_mem ha;rw[List.length_cons];omega
theorem idxN_mem:∀ (l:List Nat)(p:Nat),(idxN l p).isSome=true↔p ∈ l
 | [],p=>by simp[idxN]
 | q::l,p=>by
  unfold idxN;by_cases e:q=p
  ·subst e;simp
  ·rw[if_neg e,idxN_mem l p,List.mem_cons]
   exact⟨fun h=>.inr h,fun h=>h.elim (fun h=>absurd h.symm e) id⟩
theorem here_mem (P:List Nat)(p:Nat):(here P p).isSome=true↔p ∈ P:=by unfold here;rw[idxN_mem,List.mem_reverse]
def comeL (P:List Nat)(l:List Nat):List Nat:=l.foldl comeTo P
theorem comeL_snoc (P l:List Nat)(p:Nat):comeL P (l++[p])=comeTo (comeL P l) p:=by unfold comeL;rw[List.foldl_append];rfl
theorem comeTo_len (P:List Nat)(p:Nat):P.length≤(comeTo P p).length:=by
 unfold comeTo;split
 ·exact Nat.le_refl _
 ·rw[List.length_append];exact Nat.le_add_right _ _
theorem comeL_len:∀ (l P:List Nat),P.length≤(comeL P l).length
 | [],_=>Nat.le_refl _
 | p::l,P=>Nat.le_trans (comeTo_len P p) (comeL_len l (comeTo P p))
abbrev Gf:=Nat→Option Ob
def strongG (G:Gf)(p:Nat):List Nat:=match G p with|some ob=>ob.strong|none=>[]
def goOn (G:Gf):Nat→Nat→List Nat→List Nat
 | 0,_,P=>P
 | n+1,i,P=>if i<P.length then goOn G n (i+1) (comeL P (strongG G (P.getD i 0))) else P
def reachG (G:Gf)(N:Nat)(roots:List Nat):List Nat:=goOn G N 0 (comeL [] roots)
structure CInv (G:Gf)(P:List Nat):Prop where
 nd:P.Nodup
 inG:∀ p ∈ P,(G p).isSome=true
def OkP (G:Gf)(l:List Nat):Prop:=∀ p ∈ l,p=0∨(G p).isSome=true
theorem CInv.to {G:Gf}{P:List Nat}(h:CInv G P){p:Nat}(hp:p=0∨(G p).isSome=true):CInv G (comeTo P p):=by
 unfold comeTo;split
 ·exact h
 ·rename_i hn
  rw[here_mem]at hn;have h1:p≠0:=fun e=>hn (.inl e)
  have h2:p ∉ P:=fun e=>hn (.inr e)
  refine⟨List.nodup_append.2 ⟨h.nd,by simp,fun a ha b hb=>?_⟩,fun q hq=>?_⟩
  ·simp at hb;subst hb;exact fun e=>h2 (by rw[←e];exact ha)
  ·rcases List.mem_append.1 hq with hq|hq
   ·exact h.inG q hq
   ·simp at hq;subst hq;exact hp.resolve_left h1
theorem CInv.comeL {G:Gf}:∀ (l:List Nat){P:List Nat},CInv G P→OkP G l→CInv G (comeL P l)
 | [],_,h,_=>h
 | p::l,_,h,ho=>CInv.comeL l (h.to (ho p (by simp))) fun q hq=>ho q (by simp[hq])
theorem CInv.le {G:Gf}{P:List Nat}(h:CInv G P){K:List Nat}(hK:∀ p,(G p).isSome=true→p ∈ K):P.length≤K.length:=nodup_le P K h.nd fun x hx=>hK x (h.inG x hx)
structure GIn (w:World)(a wd L:Nat)(f:Nat→Nat)(G:Gf):Prop where
 wds:Wds w a wd L f
 ob:∀ p x,G p=some x→ObAt f p x∧x.ok∧p+x.size≤L
theorem GIn.below {w w':World}{a wd L:Nat}{f:Nat→Nat}{G:Gf}(h:GIn w a wd L f G)(hb:Below w.heap.size w w'):GIn w' a wd L f G:=⟨h.wds.below hb,h.ob⟩
structure GOk (G:Gf)(K:List Nat):Prop where
 keys:∀ p,(G p).isSome=true→p ∈ K
 num:K.length≤100000
 plc:∀ p,(G p).isSome=true→p≤131072
 shut:∀ p x,G p=some x→OkP G x.ptrs
theorem GOk.strong {G:Gf}{K:List Nat}(h:GOk G K)(p:Nat):OkP G (strongG G p):=by
 unfold strongG;split
 ·rename_i x hx
  unfold Ob.strong;split
  ·intro q hq;cases hq
  ·exact h.shut p x hx
 ·intro q hq;cases hq
theorem GOk.bd {G:Gf}{K:List Nat}(h:GOk G K){l:List Nat}(hl:OkP G l){p:Nat}(hp:p ∈ l):p≤131072:=by
 rcases hl p hp with h0|h0
 ·omega
 ·exact h.plc p h0
theorem goOn_stop (G:Gf){n i:Nat}{P:List Nat}(h:P.length≤i):goOn G n i P=P:=by
 cases n with
 | zero=>rfl
 | succ n=>unfold goOn;rw[if_neg (by omega)]
def T50 (t:Tag):Prop:=t=(50,0)∨t=(50,1)∨t=(50,2)
def Old (n:Nat)(o:Own):Prop:=∀ b,b<n→o b=(0,0)
theorem Old.below {w W w':World} {o o':Own} (h:Old w.heap.size o) (hb:Below w.heap.size w W) (hs:Stp T50 o o' W w'):Below w.heap.size w w'∧Old w.heap.size o':=by
 refine⟨((Stp.of_below (T:=T50) (o:=o) hb).trans hs).below fun b hb' e=>?_,fun b hb'=>(hs.tags b (Nat.lt_of_lt_of_le hb' hb.size)).trans (h b hb')⟩
 rw[h b hb']at e;rcases e with e|e|e<;>simp at e
section
variable {w w' : World} {a wd L : Nat} {f : Nat → Nat} {G : Gf} {K : List Nat}
theorem from_any (h:GIn w a wd L f G)(hG:GOk G K){v:Value}{roots:List Nat}{o:Own}{t:Tag}(hv:Row w o t 3 1 v roots.length (roots.map nv))(hr:OkP G roots)(hn:roots.length≤1000000) :
  Calls Tryz.prog 175 #[.pointer (some ⟨a,0,none⟩),v] w fun e w'=>∃ c mb oo,e=.returned (.tuple #[ptr c,.int .i64 0])∧ComeAt w' oo c mb (reachG G K.length roots)∧CInv G (reachG G K.length roots)∧Below w.heap.size w w'∧Old w.heap.size oo:=by
 obtain⟨pv,cv,rfl⟩:=hv.slc;have hmm:=@run_makeMap Tryz.prog;obtain⟨W,hW⟩:∃ W:World,W=(w.alloc (.map #[] 0)).alloc (.cells #[.slice none 0 0,.map (some w.heap.size)] 253):=⟨_,rfl⟩;obtain⟨o1,ho1⟩:∃ o1:Own,o1=fun b=>if b<w.heap.size then (0,0) else if b=w.heap.size then (50,2) else if b=w.heap.size+1 then (50,0) else (60,0):=⟨_,rfl⟩
 have hbW:Below w.heap.size w W:=by rw[hW];exact balloc (balloc (bsame w) _) _
 have hOld:Old w.heap.size o1:=fun b hb=>by rw[ho1];exact if_pos hb
 have hC0:ComeAt W o1 (w.heap.size+1) w.heap.size []:=by
  refine⟨⟨.slice none 0 0,by rw[hW];exact Blk.new_at _ _ _ _ _ (by simp) rfl,Row.nil _ _ _ _ _⟩,?_,?_,?_⟩
  ·rw[hW];exact (World.ownsMap_made w _ _ _).alloc _
  ·rw[ho1];show (if _ then _ else _)=_;rw[if_neg (by omega),if_neg (by omega),if_pos rfl]
  ·rw[ho1];show (if _ then _ else _)=_;rw[if_neg (by omega),if_pos rfl]
 obtain⟨c,hc⟩:∃ c,c=w.heap.size+1:=⟨_,rfl⟩;obtain⟨mb,hmb⟩:∃ mb,mb=w.heap.size:=⟨_,rfl⟩;rw[←hc]at hC0;have HW:=Lib.hid hW;have hcm:mb+1=c:=by rw[hc,hmb]
 have hC1:ComeAt W o1 c mb []:=by rw[hmb];exact hC0
 have HC0:=Lib.hid hC1;have HB0:=Lib.hid (And.intro hbW hOld);have HV:=Lib.hid hv;have HGI:=Lib.hid h;have HGO:=Lib.hid hG;have HRo:=Lib.hid hr;obtain⟨n,hnn⟩:∃ n,n=roots.length:=⟨_,rfl⟩;rw[←hnn]at HV hn ⊢;have HN:=Lib.hid hnn;have HNm:=Lib.hid hn;obtain⟨R,hR⟩:∃ R,R=reachG G K.length roots:=⟨_,rfl⟩;rw[←hR];have HRR:=Lib.hid hR;clear hR h hG hv hr hbW hOld hC0 hC1 ho1 hnn hc hn;go_enter Tryz.func175,Tryz.ntmps175;go_wp2_with fail;rw[←hmb];have hfold:(w.alloc (.map #[] 0)).alloc (.cells #[.slice none 0 0,.map (some mb)] 253)=W:=by rw[hW,hmb]
 rw[hfold,hcm];clear hW hfold HW hmm hcm hmb;go_loopw [19] (fun ix wr=>∃ (k:Nat)(oo:Own),ix=.int .i64 k∧k≤n∧ComeAt wr oo c mb (comeL [] (roots.take k))∧CInv G (comeL [] (roots.take k))∧Below w.heap.size w wr∧Old w.heap.size oo) (fun ix _=>n-(intOf ix).toNat)
 case atStart=>exact⟨0,o1,rfl,Nat.zero_le _,HC0.out,⟨List.nodup_nil,fun p hp=>by cases hp⟩,HB0.out⟩
 case round =>
  obtain⟨k,oo,rfl,hkn,hC,hI,hb,hO⟩:=hrel;by_cases hlt:k<n
  ·have hkI:(k:Int)<(n:Int):=by omega
   obtain⟨hw1,hw2⟩:=wrap_nat k (by have:=HNm.out;omega)
   obtain⟨x,hx⟩:∃ x,roots[k]?=some x:=⟨_,List.getElem?_eq_getElem (by rw[←HN.out];exact hlt)⟩
   obtain⟨g,e,hcell⟩:∃ g,pv=some ⟨g,0,none⟩∧wr.cell? ⟨g,k,none⟩=some (.int .i64 x)∧n≤cv:=by
    rcases (HV.out.below hb).form with ⟨_,h0⟩|⟨g,cap,e,hcap,_⟩
    ·omega
    ·injection e with e1 _ e3
     subst e1 e3;exact⟨g,rfl,(HV.out.below hb).cells k _ (by rw[List.getElem?_map,hx];rfl),hcap⟩
   subst e;obtain⟨hcell,hcap⟩:=hcell;have hxG:=HRo.out x (List.mem_of_getElem? hx);have hxb:=HGO.out.bd HRo.out (List.mem_of_getElem? hx);have hle:=hI.le HGO.out.keys;have HT:=Lib.hid (to_any' hC (by have:=HGO.out.num;omega) x (by omega))
   have hst:comeL [] (roots.take (k+1))=comeTo (comeL [] (roots.take k)) x:=by rw[List.take_add_one,hx];exact comeL_snoc _ _ _
   have HI2:=Lib.hid (hI.to hxG);rw[←hst]at HI2 HT;have HBO:=Lib.hid (And.intro hb hO);clear hst hxG hxb hle hI hC hx hb hO;go_wp2_with fail;refine HT.out.mono ?_
   rintro e w3 ⟨rfl,o3,hC3,hs3⟩
   obtain⟨hb3,hO3⟩:=HBO.out.2.below HBO.out.1 hs3;go_wp2_with fail;go_roundw
   case rel=>exact⟨k+1,o3,by simp,hlt,hC3,HI2.out,hb3,hO3⟩
   case measure=>simp[intOf];omega
  ·obtain rfl:k=n:=by omega
   rw[HN.out,List.take_length]at hC hI;clear hlt hkn HC0 HB0 HRo HV;obtain⟨P0,hP0⟩:∃ P0,P0=comeL [] roots:=⟨_,rfl⟩;have hre:R=goOn G K.length 0 P0:=by rw[HRR.out,hP0];rfl
   have HRE:=Lib.hid hre;rw[←hP0]at hC hI;have HS:=Lib.hid (And.intro hC (And.intro hI (And.intro hb hO)));clear hC hI hb hO hre hP0;go_wp2_with fail;go_loopw [9] (fun ix wr=>∃ (i:Nat)(P:List Nat)(oo:Own),ix=.int .i64 i∧i≤P.length∧ComeAt wr oo c mb P∧CInv G P∧goOn G (K.length-i) i P=goOn G K.length 0 P0∧Below w.heap.size w wr∧Old w.heap.size oo) (fun ix _=>K.length-(intOf ix).toNat)
   case atStart=>exact⟨0,P0,oo,rfl,Nat.zero_le _,HS.out.1,HS.out.2.1,rfl,HS.out.2.2⟩
   case round =>
    clear HS;obtain⟨i,P,oo,rfl,hiP,hC,hI,hgo,hb,hO⟩:=hrel;obtain⟨vp,jb,hp⟩:=hC.blk;obtain⟨pp,cp,rfl⟩:=hp.slc;have cb:=jb.cell;have hle:=hI.le HGO.out.keys;have hnum:=HGO.out.num;by_cases hlt:i<P.length
    ·have hkI:(i:Int)<(P.length:Int):=by omega
     obtain⟨hw1,hw2⟩:=wrap_nat i (by omega)
     obtain⟨x,hx⟩:∃ x,P[i]?=some x:=⟨_,List.getElem?_eq_getElem hlt⟩;obtain⟨g,e,hcell,hcap⟩:∃ g,pp=some ⟨g,0,none⟩∧wr.cell? ⟨g,i,none⟩=some (.int .i64 x)∧P.length≤cp:=by
      rcases hp.form with ⟨_,h0⟩|⟨g,cap,e,hcap,_⟩
      ·omega
      ·injection e with e1 _ e3
       subst e1 e3;exact⟨g,rfl,hp.cells i _ (by rw[List.getElem?_map,hx];rfl),hcap⟩
     subst e;have hxG:=hI.inG x (List.mem_of_getElem? hx);obtain⟨ob,hob⟩:=Option.isSome_iff_exists.1 hxG;obtain⟨q1,q2,q3⟩:=HGI.out.ob x ob hob;have HSt:=Lib.hid (strong_any (HGI.out.wds.below hb) q1 q2 q3);have hsg:strongG G x=ob.strong:=by unfold strongG;rw[hob]
     have hsk:=HGO.out.strong x;rw[hsg]at hsk;have hgo2:goOn G (K.length-(i+1)) (i+1) (comeL P ob.strong)=goOn G K.length 0 P0:=by
      rw[←hgo,show K.length-i=(K.length-(i+1))+1 from by omega]
      show _=if i<P.length then goOn G (K.length-(i+1)) (i+1) (comeL P (strongG G (P.getD i 0))) else P
      rw[if_pos hlt,List.getD_eq_getElem?_getD,hx,Option.getD_some,hsg]
     have hlen:ob.strong.length≤16:=by
      unfold Ob.strong;split
      ·simp
      ·rw[q2.lp];exact Nat.le_trans q2.shp.1 (by omega)
     have HCI:=Lib.hid (And.intro hC (And.intro hI (And.intro hb hO)));have HGo2:=Lib.hid hgo2;have HSk:=Lib.hid hsk;have HLe:=Lib.hid hlen;obtain⟨l,hl⟩:∃ l,l=ob.strong:=⟨_,rfl⟩;rw[←hl]at HSt HGo2 HSk HLe;obtain⟨wo,rfl⟩:∃ wo:World,wo=wr:=⟨_,rfl⟩;clear hgo hgo2 hsk hlen hsg hob hxG q1 q2 q3 hx hC hI hb hO hp jb hl;go_wp2_with fail;refine HSt.out.mono ?_
     rintro e w3 ⟨v3,rfl,hr3,hb3⟩
     obtain⟨p3,c3,rfl⟩:=hr3.slc;obtain⟨m,hm⟩:∃ m,m=l.length:=⟨_,rfl⟩;rw[←hm]at hr3 HLe ⊢;have HM:=Lib.hid hm;have s3:Stp (fun _=>False) oo (ext oo wo.heap.size (60,0)) wo w3:=(Stp.of_below hb3).ext _ _ (Nat.le_refl _)
     have HR3:=Lib.hid (hr3.out oo (60,0));have hwz:w.heap.size≤wo.heap.size:=HCI.out.2.2.1.size;have HC3:=Lib.hid (show ComeAt w3 (ext oo wo.heap.size (60,0)) c mb P∧Below w.heap.size w w3∧Old w.heap.size (ext oo wo.heap.size (60,0)) from
      ⟨HCI.out.1.stp s3 id id id,btrans HCI.out.2.2.1 hb3,fun b hb=>(ext_lt (by omega)).trans (HCI.out.2.2.2 b hb)⟩)
     have hm16:m≤16:=HLe.out;clear hr3 hb3 hm s3 cb hcell hwz;go_wp2_with fail;go_loopw [53] (fun ix wr=>∃ (j:Nat)(o4:Own),ix=.int .i64 j∧j≤m∧ComeAt wr o4 c mb (comeL P (l.take j))∧CInv G (comeL P (l.take j))∧Below w.heap.size w wr∧Old w.heap.size o4∧Row wr o4 (60,0) 3 1 (.slice p3 m c3) m (l.map nv)) (fun ix _=>m-(intOf ix).toNat)
     case atStart=>exact⟨0,_,rfl,Nat.zero_le _,HC3.out.1,HCI.out.2.1,HC3.out.2.1,HC3.out.2.2,HR3.out⟩
     case round =>
      clear HC3 HR3;obtain⟨j,o4,rfl,hjm,hC4,hI4,hb4,hO4,hR4⟩:=hrel;by_cases hlt2:j<m
      ·have hjI:(j:Int)<(m:Int):=by omega
       obtain⟨hw3,hw4⟩:=wrap_nat j (by omega)
       obtain⟨x2,hx2⟩:∃ x,l[j]?=some x:=⟨_,List.getElem?_eq_getElem (by rw[←HM.out];exact hlt2)⟩
       obtain⟨g2,e,hcell2,hcap2⟩:∃ g,p3=some ⟨g,0,none⟩∧wr.cell? ⟨g,j,none⟩=some (.int .i64 x2)∧m≤c3:=by
        rcases hR4.form with ⟨_,h0⟩|⟨g,cap,e,hcap,_⟩
        ·omega
        ·injection e with e1 _ e3
         subst e1 e3;exact⟨g,rfl,hR4.cells j _ (by rw[List.getElem?_map,hx2];rfl),hcap⟩
       subst e;have hxG:=HSk.out x2 (List.mem_of_getElem? hx2);have hxb:=HGO.out.bd HSk.out (List.mem_of_getElem? hx2);have hle4:=hI4.le HGO.out.keys;have HT:=Lib.hid (to_any' hC4 (by omega) x2 (by omega))
       have hst:comeL P (l.take (j+1))=comeTo (comeL P (l.take j)) x2:=by rw[List.take_add_one,hx2];exact comeL_snoc _ _ _
       have HI2:=Lib.hid (hI4.to hxG);rw[←hst]at HI2 HT;have HBO:=Lib.hid (And.intro hb4 (And.intro hO4 hR4));clear hst hxG hxb hle4 hI4 hC4 hx2 hb4 hO4 hR4;go_wp2_with fail;refine HT.out.mono ?_
       rintro e w5 ⟨rfl,o5,hC5,hs5⟩
       obtain⟨hb5,hO5⟩:=HBO.out.2.1.below HBO.out.1 hs5;have hR5:=HBO.out.2.2.stp hs5 (by simp)
       go_wp2_with fail;go_roundw
       case rel=>exact⟨j+1,o5,by simp,hlt2,hC5,HI2.out,hb5,hO5,hR5⟩
       case measure=>simp[intOf];omega
      ·obtain rfl:j=m:=by omega
       rw[HM.out,List.take_length]at hC4 hI4;have hle4:=hI4.le HGO.out.keys;have HX:=Lib.hid (And.intro hC4 (And.intro hI4 (And.intro hb4 hO4)));have HM2:=HM.out;clear hC4 hI4 hb4 hO4 hR4 HM HSt HCI;go_wp2_with fail;go_roundw
       case rel =>
        refine⟨i+1,comeL P l,o4,by simp,?_,HX.out.1,HX.out.2.1,HGo2.out,HX.out.2.2⟩
        exact Nat.le_trans hlt (comeL_len l P)
       case measure=>simp[intOf];omega
    ·obtain rfl:i=P.length:=by omega
     rw[goOn_stop G (Nat.le_refl _)]at hgo;have HX:=Lib.hid (And.intro hC (And.intro hI (And.intro hb hO)));have hRP:R=P:=by rw[HRE.out,←hgo]
     subst hRP;clear hC hI hb hO hgo hp jb;go_wp2_with fail;go_ret2;exact⟨c,mb,oo,rfl,HX.out⟩
end
def zv (n:Int):Value:=.int .i64 n
def ixs (P:List Nat)(l:List Nat):List Value:=l.map fun q=>.int .i64 (ixOf P q)
section
variable {w w' : World} {a wd L : Nat} {f : Nat → Nat} {G : Gf} {oc : Own} {c mb : Nat} {P : List Nat}
theorem node_any (hG:GIn w a wd L f G){p:Nat}{x:Ob}(hx:G p=some x)(hC:ComeAt w oc c mb P) :
  Calls Tryz.prog 176 #[.pointer (some ⟨a,0,none⟩),.int .i64 p,ptr c] w fun e w'=>∃ v1 v2 oo,e=.returned (.tuple #[.agg #[.int .i64 x.serial,.int .i64 x.shp.p,.int .i64 x.shp.d,.bool x.shp.weak,.bool x.shp.final,.bool x.freed,v1,v2],.int .i64 0]) ∧
   Row w' oo (51,0) 3 1 v1 x.ptrs.length (ixs P x.ptrs)∧Row w' oo (52,0) 3 1 v2 x.nums.length (x.nums.map zv)∧Below w.heap.size w w'∧Old w.heap.size oo:=by
 obtain⟨ho,hk,hl⟩:=hG.ob p x hx;have HSh:=Lib.hid (fun (W:World)(hb:Below w.heap.size w W)=>oshape_any (hG.wds.below hb) ho hk hl p rfl)
 have HSe:=Lib.hid (fun (W:World)(hb:Below w.heap.size w W)=>oserial_any (hG.wds.below hb) ho hk hl p rfl)
 have HPt:=Lib.hid (fun (W:World)(hb:Below w.heap.size w W)(i q:Nat)(hq:x.ptrs[i]?=some q)=>optr_get (hG.wds.below hb) ho hk hl i q hq p i rfl rfl)
 have HNu:=Lib.hid (fun (W:World)(hb:Below w.heap.size w W)(i:Nat)(n:Int)(hq:x.nums[i]?=some n)=>onum_get (hG.wds.below hb) ho hk hl i n hq p i rfl rfl)
 have HIx:=Lib.hid (fun (W:World)(hb:Below w.heap.size w W)(q:Nat)(hq:q≤131072)=>index_any (hC.below hb) q (by omega))
 have HOk:=Lib.hid hk;obtain⟨⟨sp,sd,wk,fn⟩,fr,se,ser,ptrs,nums⟩:=x;simp only at HSh HSe HPt HNu ⊢;unfold shpV at HSh;simp only at HSh;clear hG hx hC ho hk hl;go_enter Tryz.func176,Tryz.ntmps176;go_wp2_with (first
  | (go_at_call 130;refine (HSh.out _ (balloc (bsame w) _)).mono ?_;rintro e w1 ⟨rfl,hb1⟩;have hb2:=btrans (balloc (bsame w) (.cells #[.int .i64 0,.int .i64 0,.int .i64 0,.bool false,.bool false,.bool false,.slice none 0 0,.slice none 0 0] 120)) hb1)
  | (go_at_call 131;refine (HSe.out _ (balloc (balloc hb2 _) _)).mono ?_;rintro e w3 ⟨rfl,hb3⟩;have jN:=(Blk.new_at (w1.alloc (.cells #[.int .i64 sp,.int .i64 sd,.bool wk,.bool fn] 93)) _ #[.int .i64 0,.int .i64 sp,.int .i64 sd,.bool wk,.bool fn,.bool fr,.slice none 0 0,.slice none 0 0] 120 (w1.heap.size+1) (by simp) rfl).below hb3 (Blk.new_at _ _ _ _ _ (by simp) rfl).lt;have jS:=((Blk.new w1 #[.int .i64 sp,.int .i64 sd,.bool wk,.bool fn] 93).alloc (.cells #[.int .i64 0,.int .i64 sp,.int .i64 sd,.bool wk,.bool fn,.bool fr,.slice none 0 0,.slice none 0 0] 120)).below hb3 ((Blk.new w1 #[.int .i64 sp,.int .i64 sd,.bool wk,.bool fn] 93).alloc (.cells #[.int .i64 0,.int .i64 sp,.int .i64 sd,.bool wk,.bool fn,.bool fr,.slice none 0 0,.slice none 0 0] 120)).lt;have cS:=jS.cell;have cN:=jN.cell;have zN:=jN.free;have lN:=jN.lt)
  | fail)
 have jR:=((Blk.new w #[.int .i64 0,.int .i64 0,.int .i64 0,.bool false,.bool false,.bool false,.slice none 0 0,.slice none 0 0] 120).below hb1 (Blk.new w #[.int .i64 0,.int .i64 0,.int .i64 0,.bool false,.bool false,.bool false,.slice none 0 0,.slice none 0 0] 120).lt);have jR3:=((jR.alloc (.cells #[.int .i64 sp,.int .i64 sd,.bool wk,.bool fn] 93)).alloc (.cells #[.int .i64 0,.int .i64 sp,.int .i64 sd,.bool wk,.bool fn,.bool fr,.slice none 0 0,.slice none 0 0] 120)).below hb3 ((jR.alloc (.cells #[.int .i64 sp,.int .i64 sd,.bool wk,.bool fn] 93)).alloc (.cells #[.int .i64 0,.int .i64 sp,.int .i64 sd,.bool wk,.bool fn,.bool fr,.slice none 0 0,.slice none 0 0] 120)).lt;have lR:=jR.lt;obtain⟨W,hW⟩:∃ W:World,W=w3.setCell ⟨w1.heap.size+1,0,none⟩ (.int .i64 ser):=⟨_,rfl⟩;rw[←hW];have jN5:Blk W (w1.heap.size+1) #[.int .i64 ser,.int .i64 sp,.int .i64 sd,.bool wk,.bool fn,.bool fr,.slice none 0 0,.slice none 0 0] 120:=by rw[hW];exact jN.set 0 _
 have jS5:Blk W w1.heap.size #[.int .i64 sp,.int .i64 sd,.bool wk,.bool fn] 93:=by rw[hW];exact jS.set_other (by show w1.heap.size≠w1.heap.size+1;omega) _
 have jR5:Blk W w.heap.size #[.int .i64 0,.int .i64 0,.int .i64 0,.bool false,.bool false,.bool false,.slice none 0 0,.slice none 0 0] 120:=by rw[hW];exact jR3.set_other (by show w.heap.size≠w1.heap.size+1;omega) _
 have hz1:w.heap.size≤w1.heap.size:=hb2.size;have hbW:Below w.heap.size w W:=by rw[hW];exact bset (btrans (balloc (balloc hb2 _) _) hb3) (by show w.heap.size≤w1.heap.size+1;omega) _
 obtain⟨o1,ho1⟩:∃ o1:Own,o1=fun b=>if b<w.heap.size then (0,0) else (53,0):=⟨_,rfl⟩
 have hO1:Old w.heap.size o1:=fun b hb=>by rw[ho1];exact if_pos hb
 have hT1:∀ b,w.heap.size≤b→o1 b=(53,0):=fun b hb=>by rw[ho1];exact if_neg (by omega)
 have HI:=Lib.hid (And.intro jN5 (And.intro jS5 (And.intro jR5 (And.intro hbW (And.intro hO1 (And.intro (hT1 _ (show w.heap.size≤w1.heap.size+1 by omega)) (And.intro (hT1 _ hz1) (hT1 _ (Nat.le_refl _)))))))))
 have hlp:ptrs.length=sp:=HOk.out.lp;have HLp:=Lib.hid hlp;have hsp:sp≤16:=Nat.le_trans HOk.out.shp.1 (by omega)
 obtain⟨iI,hi,hsI,hyI,hzI⟩:=info_int;have hu64:=Tryz.underlying25;have HNE:=Lib.hid (show w.heap.size≠w1.heap.size+1 by omega)
 obtain⟨S,hS⟩:∃ S,S=w1.heap.size:=⟨_,rfl⟩;obtain⟨R,hR⟩:∃ R,R=w.heap.size:=⟨_,rfl⟩;clear jR jR3 lR hW jN5 jS5 jR5 hz1 hbW hO1 hT1 ho1 hb1 hb2 hb3 jN jS cN cS zN lN hlp HSh HSe;have HSR:=Lib.hid (And.intro hS hR);rw[←hS,←hR]at HI ⊢;clear hS hR;go_loopw [45] (fun ix wr=>∃ (i:Nat)(v1:Value)(oo:Own),ix=.int .i64 i∧i≤sp∧Row wr oo (51,0) 3 1 v1 i (ixs P (ptrs.take i))∧Blk wr (S+1) #[.int .i64 ser,.int .i64 sp,.int .i64 sd,.bool wk,.bool fn,.bool fr,v1,.slice none 0 0] 120∧Blk wr S #[.int .i64 sp,.int .i64 sd,.bool wk,.bool fn] 93∧Blk wr R #[.int .i64 0,.int .i64 0,.int .i64 0,.bool false,.bool false,.bool false,.slice none 0 0,.slice none 0 0] 120∧Below R w wr∧Old R oo∧oo (S+1)=(53,0)∧oo S=(53,0)∧oo R=(53,0)) (fun ix _=>sp-(intOf ix).toNat)
 case atStart=>exact⟨0,_,o1,rfl,Nat.zero_le _,Row.nil _ _ _ _ _,HI.out⟩
 case round =>
  clear HI;obtain⟨i,v1,oo,rfl,hin,hr,jN,jS,jR,hb,hO,tN,tS,tR⟩:=hrel;by_cases hlt:i<sp
  ·have hiI:(i:Int)<(sp:Int):=by omega
   have HW:=Lib.hid (wrap_nat i (by omega))
   have hb':Below w.heap.size w wr:=by rw[←HSR.out.2];exact hb
   obtain⟨q,hq⟩:∃ q,ptrs[i]?=some q:=⟨_,List.getElem?_eq_getElem (by rw[HLp.out];exact hlt)⟩
   have HP:=Lib.hid (HPt.out wr hb' i q hq);have hq131:q≤131072:=HOk.out.ptr q (List.mem_of_getElem? hq);have HI2:=Lib.hid (fun (W3:World)(hb3:Below wr.heap.size wr W3)=>HIx.out W3 (btrans hb' hb3) q hq131)
   obtain⟨pv,cv,rfl⟩:=hr.slc;have HTk:=Lib.hid (show ixs P (ptrs.take (i+1))=ixs P (ptrs.take i)++[.int .i64 (ixOf P q)] from by rw[List.take_add_one,hq];unfold ixs;rw[List.map_append];rfl)
   have hml:i+1≤maxLen:=by simp only[maxLen];omega
   have hmb:(i+1)*8≤140737488355328:=by omega
   have cN:=jN.cell;have cS:=jS.cell;have lN:=jN.lt;have HX:=Lib.hid (fun (w5 w7:World)(o7:Own)(p7:Option Addr)(c7:Nat)(hb5:Below wr.heap.size wr w5)(hown:Row w7 o7 (51,0) 3 1 (.slice p7 (i+1) c7) (i+1) (ixs P (ptrs.take i)++[.int .i64 (ixOf P q)]))(hst:Stp (fun t=>t=(51,0)) oo o7 (w5.drew.alloc (.cells #[.int .i64 (ixOf P q)] 3)) w7) =>
    show Blk w7 (S+1) #[.int .i64 ser,.int .i64 sp,.int .i64 sd,.bool wk,.bool fn,.bool fr,.slice pv i cv,.slice none 0 0] 120∧(Row (w7.setCell ⟨S+1,6,none⟩ (.slice p7 (i+1) c7)) o7 (51,0) 3 1 (.slice p7 (i+1) c7) (i+1) (ixs P (ptrs.take (i+1)))∧Blk (w7.setCell ⟨S+1,6,none⟩ (.slice p7 (i+1) c7)) (S+1) #[.int .i64 ser,.int .i64 sp,.int .i64 sd,.bool wk,.bool fn,.bool fr,.slice p7 (i+1) c7,.slice none 0 0] 120∧Blk (w7.setCell ⟨S+1,6,none⟩ (.slice p7 (i+1) c7)) S #[.int .i64 sp,.int .i64 sd,.bool wk,.bool fn] 93∧Blk (w7.setCell ⟨S+1,6,none⟩ (.slice p7 (i+1) c7)) R #[.int .i64 0,.int .i64 0,.int .i64 0,.bool false,.bool false,.bool false,.slice none 0 0,.slice none 0 0] 120 ∧
     Below R w (w7.setCell ⟨S+1,6,none⟩ (.slice p7 (i+1) c7))∧Old R o7∧o7 (S+1)=(53,0)∧o7 S=(53,0)∧o7 R=(53,0)) from by
     have hbq:Below wr.heap.size wr (w5.drew.alloc (.cells #[.int .i64 (ixOf P q)] 3)):=balloc (bdrew hb5) _;have k1:Stp (fun t=>t=(51,0)) oo o7 wr w7:=(Stp.of_below hbq).trans hst
     have j7:=jN.stp k1 (by rw[tN];simp)
     have s7:=jS.stp k1 (by rw[tS];simp)
     have r7:=jR.stp k1 (by rw[tR];simp)
     have tN7:=(k1.tags _ jN.lt).trans tN;have tS7:=(k1.tags _ jS.lt).trans tS;have tR7:=(k1.tags _ jR.lt).trans tR;have k2:Stp (fun t=>t=(53,0)) o7 o7 w7 (w7.setCell ⟨S+1,6,none⟩ (.slice p7 (i+1) c7)):=(Stp.refl _ o7 w7).setCell (by show o7 (S+1)=_;exact tN7) _
     have hRS:R≠S+1:=by rw[HSR.out.2,HSR.out.1];exact HNE.out
     have hz:R=w.heap.size:=HSR.out.2;have kk:Stp (fun t=>t=(51,0)∨t=(53,0)) oo o7 w (w7.setCell ⟨S+1,6,none⟩ (.slice p7 (i+1) c7)):=((Stp.of_below hb').trans (k1.mono fun _ h=>.inl h)).trans (k2.mono fun _ h=>.inr h)
     refine⟨j7,by rw[HTk.out];exact hown.stp k2 (by simp),j7.set 6 _,s7.set_other (by show S≠S+1;omega) _,r7.set_other (by show R≠S+1;exact hRS) _,?_,?_,tN7,tS7,tR7⟩
     ·rw[hz]
      exact kk.below fun b hb2 e=>by
       have:=hO b (by rw[hz];exact hb2)
       rw[this]at e;simp at e
     ·intro b hb2
      exact (kk.tags b (by rw[←hz];exact hb2)).trans (hO b hb2))
   have HRr:=Lib.hid hr;have JN:=Lib.hid jN;clear hr jN jS jR hb hO tN tS tR hq hb' hq131;go_upto_region 14 with (first
    | (go_at_call 171;refine HP.out.mono ?_;rintro e w5 ⟨rfl,hb5⟩)
    | fail)
   have jN5:=JN.out.below hb5 JN.out.lt;have cN5:=jN5.cell;have lN5:=jN5.lt;have rn:=(HRr.out.below hb5).below (balloc (bdrew (bsame w5)) (.cells #[.int .i64 (ixOf P q)] 3));have jn:=Blk.new w5.drew #[.int .i64 (ixOf P q)] 3;clear cN lN;go_region_law (first
    | (refine step_append_row _ (by rfl) _ _ _ (by rfl) 3 iI _ 1 8 hu64 hi hzI hsI hyI (by rfl) (by decide) oo (51,0) _ _ _ (by rfl) rn ⟨w5.heap.size,0,none⟩ 1 1 [.int .i64 (ixOf P q)] (by rfl) (by rfl) (news_one jn) one_i64 hml hmb ?_;intro v' w7 hown hst;obtain⟨p7,c7,rfl⟩:=hown.slc;obtain⟨j7,hfin⟩:=HX.out w5 w7 _ p7 c7 hb5 hown hst;have c7':=j7.cell;have z7:=j7.free;have l7:=j7.lt)
    | (go_simp;go_wp2_with ((go_at_call 177;refine (HI2.out _ (bdrew hb5)).mono ?_;rintro e w6 ⟨rfl,rfl⟩))))
   all_goals
    clear hown hst j7;obtain⟨hw1,hw2⟩:=HW.out;go_wp2_with fail;go_roundw
    case rel=>exact⟨i+1,_,_,by simp,hlt,hfin⟩
    case measure=>clear hw1 hw2 hml hmb;simp[intOf];omega
  ·obtain rfl:i=sp:=by omega
   rw[←HLp.out,List.take_length,HLp.out]at hr;obtain⟨pv,cv,rfl⟩:=hr.slc;have cN:=jN.cell;have cS:=jS.cell;have lN:=jN.lt;have hsd:sd≤16:=Nat.le_trans HOk.out.shp.2.1 (by omega)
   have HLn:=Lib.hid (show nums.length=sd from HOk.out.ln);have HI:=Lib.hid (And.intro (Row.nil wr oo (52,0) 3 1) (And.intro hr (And.intro jN (And.intro jR (And.intro hb (And.intro hO (And.intro tN tR)))))));have jS0:=Lib.hid jS;clear hr jN jS jR hb hO tN tS tR hlt hin HIx HPt;go_wp2_with fail;clear cN cS lN;go_loopw [70] (fun ix wr=>∃ (j:Nat)(v2:Value)(oo:Own),ix=.int .i64 j∧j≤sd∧Row wr oo (52,0) 3 1 v2 j ((nums.take j).map zv)∧Row wr oo (51,0) 3 1 (.slice pv i cv) i (ixs P ptrs)∧Blk wr (S+1) #[.int .i64 ser,.int .i64 i,.int .i64 sd,.bool wk,.bool fn,.bool fr,.slice pv i cv,v2] 120∧Blk wr R #[.int .i64 0,.int .i64 0,.int .i64 0,.bool false,.bool false,.bool false,.slice none 0 0,.slice none 0 0] 120∧Below R w wr∧Old R oo∧oo (S+1)=(53,0)∧oo R=(53,0)) (fun ix _=>sd-(intOf ix).toNat)
   case atStart=>exact⟨0,_,oo,rfl,Nat.zero_le _,HI.out⟩
   case round =>
    clear HI;obtain⟨j,v2,o2,rfl,hjn,hr2,hr,jN,jR,hb,hO,tN,tR⟩:=hrel;by_cases hlt:j<sd
    ·have hjI:(j:Int)<(sd:Int):=by omega
     have HW:=Lib.hid (wrap_nat j (by omega))
     have hb':Below w.heap.size w wr:=by rw[←HSR.out.2];exact hb
     obtain⟨nq,hq⟩:∃ nq,nums[j]?=some nq:=⟨_,List.getElem?_eq_getElem (by rw[HLn.out];exact hlt)⟩
     have HP:=Lib.hid (HNu.out wr hb' j nq hq);obtain⟨p2,c2,rfl⟩:=hr2.slc;have HTk:=Lib.hid (show (nums.take (j+1)).map zv=(nums.take j).map zv++[.int .i64 nq] from by rw[List.take_add_one,hq,List.map_append];rfl)
     have hml:j+1≤maxLen:=by simp only[maxLen];omega
     have hmb:(j+1)*8≤140737488355328:=by omega
     have HX:=Lib.hid (fun (w5 w7:World)(o7:Own)(p7:Option Addr)(c7:Nat)(hb5:Below wr.heap.size wr w5)(hown:Row w7 o7 (52,0) 3 1 (.slice p7 (j+1) c7) (j+1) ((nums.take j).map zv++[.int .i64 nq]))(hst:Stp (fun t=>t=(52,0)) o2 o7 (w5.alloc (.cells #[.int .i64 nq] 3)) w7) =>
      show Blk w7 (S+1) #[.int .i64 ser,.int .i64 i,.int .i64 sd,.bool wk,.bool fn,.bool fr,.slice pv i cv,.slice p2 j c2] 120∧(Row (w7.setCell ⟨S+1,7,none⟩ (.slice p7 (j+1) c7)) o7 (52,0) 3 1 (.slice p7 (j+1) c7) (j+1) ((nums.take (j+1)).map zv)∧Row (w7.setCell ⟨S+1,7,none⟩ (.slice p7 (j+1) c7)) o7 (51,0) 3 1 (.slice pv i cv) i (ixs P ptrs)∧Blk (w7.setCell ⟨S+1,7,none⟩ (.slice p7 (j+1) c7)) (S+1) #[.int .i64 ser,.int .i64 i,.int .i64 sd,.bool wk,.bool fn,.bool fr,.slice pv i cv,.slice p7 (j+1) c7] 120∧Blk (w7.setCell ⟨S+1,7,none⟩ (.slice p7 (j+1) c7)) R #[.int .i64 0,.int .i64 0,.int .i64 0,.bool false,.bool false,.bool false,.slice none 0 0,.slice none 0 0] 120 ∧
       Below R w (w7.setCell ⟨S+1,7,none⟩ (.slice p7 (j+1) c7))∧Old R o7∧o7 (S+1)=(53,0)∧o7 R=(53,0)) from by
       have hbq:Below wr.heap.size wr (w5.alloc (.cells #[.int .i64 nq] 3)):=balloc hb5 _;have k1:Stp (fun t=>t=(52,0)) o2 o7 wr w7:=(Stp.of_below hbq).trans hst
       have j7:=jN.stp k1 (by rw[tN];simp)
       have r7:=jR.stp k1 (by rw[tR];simp)
       have tN7:=(k1.tags _ jN.lt).trans tN;have tR7:=(k1.tags _ jR.lt).trans tR;have k2:Stp (fun t=>t=(53,0)) o7 o7 w7 (w7.setCell ⟨S+1,7,none⟩ (.slice p7 (j+1) c7)):=(Stp.refl _ o7 w7).setCell (by show o7 (S+1)=_;exact tN7) _
       have hRS:R≠S+1:=by rw[HSR.out.2,HSR.out.1];exact HNE.out
       have hz:R=w.heap.size:=HSR.out.2;have kk:Stp (fun t=>t=(52,0)∨t=(53,0)) o2 o7 w (w7.setCell ⟨S+1,7,none⟩ (.slice p7 (j+1) c7)):=((Stp.of_below hb').trans (k1.mono fun _ h=>.inl h)).trans (k2.mono fun _ h=>.inr h)
       refine⟨j7,by rw[HTk.out];exact hown.stp k2 (by simp),(hr.stp k1 (by simp)).stp k2 (by simp),j7.set 7 _,r7.set_other (by show R≠S+1;exact hRS) _,?_,?_,tN7,tR7⟩
       ·rw[hz]
        exact kk.below fun b hb2 e=>by
         have:=hO b (by rw[hz];exact hb2)
         rw[this]at e;simp at e
       ·intro b hb2
        exact (kk.tags b (by rw[←hz];exact hb2)).trans (hO b hb2))
     have HR2:=Lib.hid hr2;have JN:=Lib.hid jN;clear hr2 hr jN jR hb hO tN tR hq hb';obtain⟨hw1,hw2⟩:=HW.out;go_wp2_with (first
      | (go_at_call 137;refine HP.out.mono ?_;rintro e w5 ⟨rfl,hb5⟩;have jN5:=JN.out.below hb5 JN.out.lt;have cN5:=jN5.cell;have lN5:=jN5.lt)
      | (at_builtin;refine wpList_append_row _ rfl _ _ _ rfl 3 iI _ 1 8 hu64 hi hzI hsI hyI rfl (by decide) o2 (52,0) _ _ _ rfl ((HR2.out.below hb5).below (balloc (bsame w5) (.cells #[.int .i64 nq] 3))) ⟨w5.heap.size,0,none⟩ 1 1 [.int .i64 nq] rfl rfl (news_one (Blk.new w5 _ _)) one_i64 hml hmb ?_;intro v' w7 hown hst;obtain⟨p7,c7,rfl⟩:=hown.slc;obtain⟨j7,hfin⟩:=HX.out w5 w7 _ p7 c7 hb5 hown hst;have c7':=j7.cell;have z7:=j7.free;have l7:=j7.lt)
      | fail)
     clear hown hst j7;go_roundw
     case rel=>exact⟨j+1,_,_,by simp,hlt,hfin⟩
     case measure=>clear hw1 hw2 hml hmb;simp[intOf];omega
    ·obtain rfl:j=sd:=by omega
     rw[←HLn.out,List.take_length,HLn.out]at hr2;obtain⟨p2,c2,rfl⟩:=hr2.slc;have cN:=jN.cell;have lN:=jN.lt;have cR:=jR.cell;have zR:=jR.free;have lR:=jR.lt;obtain⟨X,hX⟩:∃ X:World,X=((((((((wr.setCell ⟨R,0,none⟩ (.int .i64 ser)).setCell ⟨R,1,none⟩ (.int .i64 i)).setCell ⟨R,2,none⟩ (.int .i64 j)).setCell ⟨R,3,none⟩ (.bool wk)).setCell ⟨R,4,none⟩ (.bool fn)).setCell ⟨R,5,none⟩ (.bool fr)).setCell ⟨R,6,none⟩ (.slice pv i cv)).setCell ⟨R,7,none⟩ (.slice p2 j c2)):=⟨_,rfl⟩;have jX:Blk X R #[.int .i64 ser,.int .i64 i,.int .i64 j,.bool wk,.bool fn,.bool fr,.slice pv i cv,.slice p2 j c2] 120:=by rw[hX];exact ((((((((jR.set 0 (.int .i64 ser)).set 1 (.int .i64 i)).set 2 (.int .i64 j)).set 3 (.bool wk)).set 4 (.bool fn)).set 5 (.bool fr)).set 6 (.slice pv i cv)).set 7 (.slice p2 j c2))
     have k2:Stp (fun t=>t=(53,0)) o2 o2 wr X:=by rw[hX];exact (((((((((Stp.refl _ o2 wr).setCell (by show o2 R=_;exact tR) _).setCell (by show o2 R=_;exact tR) _).setCell (by show o2 R=_;exact tR) _).setCell (by show o2 R=_;exact tR) _).setCell (by show o2 R=_;exact tR) _).setCell (by show o2 R=_;exact tR) _).setCell (by show o2 R=_;exact tR) _).setCell (by show o2 R=_;exact tR) _)
     have hz:R=w.heap.size:=HSR.out.2;have HFin:=Lib.hid (show Row X o2 (51,0) 3 1 (.slice pv i cv) ptrs.length (ixs P ptrs)∧Row X o2 (52,0) 3 1 (.slice p2 j c2) nums.length (nums.map zv)∧Below w.heap.size w X∧Old w.heap.size o2 from by
      have hb':Below w.heap.size w wr:=by rw[←hz];exact hb
      refine⟨(hr.stp k2 (by simp)).ite HLp.out.symm rfl,(hr2.stp k2 (by simp)).ite HLn.out.symm rfl,((Stp.of_below hb').trans k2).below fun b hb2 e=>?_,by rw[←hz];exact hO⟩
      have:=hO b (by rw[hz];exact hb2)
      rw[this]at e;simp at e)
     have JX:=Lib.hid jX;have HXe:=Lib.hid hX;clear hr2 hr jN jR hb hO tN tR jX k2 hz hX;go_wp2_with fail;rw[←HXe.out];have cX:=JX.out.cell;exact bodyPost_ret (v:=.tuple #[.agg #[.int .i64 ser,.int .i64 i,.int .i64 j,.bool wk,.bool fn,.bool fr,.slice pv i cv,.slice p2 j c2],.int .i64 0]) (by simp[results,Tryz.results176,go_sem,cX]) rfl ⟨_,_,o2,rfl,HFin.out⟩
end
structure Nd where
 ser:Nat
 shp:Shp
 freed:Bool
 ptrs:List Int
 nums:List Int
def Nd.of (P:List Nat)(x:Ob):Nd:=⟨x.serial,x.shp,x.freed,x.ptrs.map (ixOf P),x.nums⟩
def Nd.none:Nd:=⟨0,⟨0,0,false,false⟩,false,[],[]⟩
def nd8 (e:Nd×Value×Value):List Value:=[.int .i64 e.1.ser,.int .i64 e.1.shp.p,.int .i64 e.1.shp.d,.bool e.1.shp.weak,.bool e.1.shp.final,.bool e.1.freed,e.2.1,e.2.2]
def ndcells (es:List (Nd×Value×Value)):List Value:=es.flatMap nd8
theorem ndcells_snoc (es:List (Nd×Value×Value))(e:Nd×Value×Value):ndcells (es++[e])=ndcells es++nd8 e:=by unfold ndcells;simp
structure NdsIn (W:World)(o:Own)(v:Value)(l:List Nd):Prop where
 es:∃ es:List (Nd×Value×Value),es.map (·.1)=l∧Row W o (54,0) 120 8 v l.length (ndcells es) ∧
  ∀ e ∈ es,Row W o (51,0) 3 1 e.2.1 e.1.ptrs.length (e.1.ptrs.map zv)∧Row W o (52,0) 3 1 e.2.2 e.1.nums.length (e.1.nums.map zv)
def canonG (G:Gf)(P l:List Nat):List Nd:=l.map fun p=>match G p with|some x=>Nd.of P x|none=>Nd.none
def mixO (o o2:Own)(n:Nat):Own:=fun b=>if b<n then o b else o2 b
theorem mixO_lt {o o2:Own}{n b:Nat}(h:b<n):mixO o o2 n b=o b:=if_pos h
theorem Row.mixO {W:World}{o2:Own}{n:Nat}{t:Tag}{e:TypeId}{size k:Nat}{v:Value}{xs:List Value}(h:Row W o2 t e size v k xs)(hO:Old n o2)(ht:t≠(0,0))(o:Own):Row W (mixO o o2 n) t e size v k xs:=
 ⟨h.own,fun b hb=>by
  have h1:=h.tag b hb;show (if b<n then o b else o2 b)=t
  rw[if_neg fun hl=>ht (by rw[←h1];exact hO b hl)];exact h1⟩
theorem Stp.mixO {T:Tag→Prop} {o:Own} {w W:World} (o2:Own) (h:Below w.heap.size w W):Stp T o (mixO o o2 w.heap.size) w W:=
 let s:=Stp.of_below (T:=T) (o:=o) h
 ⟨s.os,s.tape,s.output,s.size,fun _ hb=>mixO_lt hb,s.block⟩
theorem slc_one {w:World}{o:Own}{t:Tag}{e:TypeId}{size n:Nat}{v:Value}{xs:List Value}(h:Row w o t e size v n xs):v.oneCell'=true:=by obtain⟨_,_,rfl⟩:=h.slc;rfl
theorem node_one {a b c:Int}{d e f:Bool}{v1 v2:Value}(h1:v1.oneCell'=true)(h2:v2.oneCell'=true):∀ u ∈ [Value.int .i64 a,.int .i64 b,.int .i64 c,.bool d,.bool e,.bool f,v1,v2],u.oneCell'=true:=by
 intro u hu;simp at hu;rcases hu with rfl|rfl|rfl|rfl|rfl|rfl|rfl|rfl<;>first|rfl|assumption
theorem NdsIn.stp {T:Tag→Prop}{W W':World}{o o':Own}{v:Value}{l:List Nd}(h:NdsIn W o v l)(k:Stp T o o' W W')(h4:¬T (54,0))(h1:¬T (51,0))(h2:¬T (52,0)):NdsIn W' o' v l:=by
 obtain⟨es,he,hr,hi⟩:=h;exact⟨es,he,hr.stp k h4,fun e h=>⟨(hi e h).1.stp k h1,(hi e h).2.stp k h2⟩⟩
theorem info_node:∃ i,Tryz.prog.info? 120=some i∧i.size=8∧i.bytes=88∧i.zero=some (.agg #[.int .i64 0,.int .i64 0,.int .i64 0,.bool false,.bool false,.bool false,.slice none 0 0,.slice none 0 0]):=info_parts (by kernel_rfl)
section
variable {w w' : World} {a wd L : Nat} {f : Nat → Nat} {G : Gf} {K : List Nat}
theorem gcanon_any (h:GIn w a wd L f G) (hG:GOk G K) {v:Value} {roots:List Nat} {o:Own} {t:Tag} (hv:Row w o t 3 1 v roots.length (roots.map nv)) (hr:OkP G roots) (hn:roots.length≤1000000) :
  Calls Tryz.prog 114 #[.pointer (some ⟨a,0,none⟩),v] w fun e w'=>∃ v1 v2 oo,e=.returned (.tuple #[v1,v2,.int .i64 0])∧NdsIn w' oo v1 (canonG G (reachG G K.length roots) (reachG G K.length roots)) ∧
   Row w' oo (55,0) 3 1 v2 roots.length (ixs (reachG G K.length roots) roots)∧Below w.heap.size w w'∧Old w.heap.size oo:=by
 obtain⟨iN,hiN,hsN,hyN,hzN⟩:=info_node;obtain⟨iI,hi,hsI,hyI,hzI⟩:=info_int;have huN:=Tryz.underlying28;have hu64:=Tryz.underlying25;have HFr:=Lib.hid (from_any h hG hv hr hn);obtain⟨R,hR⟩:∃ R,R=reachG G K.length roots:=⟨_,rfl⟩;rw[←hR]at HFr ⊢;obtain⟨pv,cv,rfl⟩:=hv.slc;have HV:=Lib.hid hv;have HGI:=Lib.hid h;have HGO:=Lib.hid hG;have HRo:=Lib.hid hr;obtain⟨n,hnn⟩:∃ n,n=roots.length:=⟨_,rfl⟩;rw[←hnn]at HV HFr hn ⊢;have HN:=Lib.hid hnn;have HNm:=Lib.hid hn;clear hR h hG hv hr hnn hn;go_enter Tryz.func114,Tryz.ntmps114;go_wp2_with (first
  | (go_at_call 175;refine HFr.out.mono ?_;rintro e w1 ⟨c,mb,oc,rfl,hC,hI,hb1,hO1⟩;obtain⟨vp,jc,hp⟩:=hC.blk;obtain⟨pp,cp,rfl⟩:=hp.slc;have cc:=jc.cell)
  | fail)
 obtain⟨m,hm⟩:∃ m,m=R.length:=⟨_,rfl⟩;rw[←hm];have hK:=HGO.out.num;have hmK:m≤100000:=by rw[hm];exact Nat.le_trans (hI.le HGO.out.keys) hK
 have HC:=Lib.hid hC;have HI:=Lib.hid hI;have HB1:=Lib.hid hb1;have HP:=Lib.hid hp;have HM:=Lib.hid hm;clear hC hI hb1 hO1 hp hm jc cc hK HFr;go_loopw [9,31] (fun vn ix wr=>∃ (k:Nat) (oo:Own),ix=.int .i64 k∧k≤m∧NdsIn wr oo vn (canonG G R (R.take k))∧Below w1.heap.size w1 wr∧Old w1.heap.size oo) (fun _ ix _=>m-(intOf ix).toNat)
 case atStart=>exact⟨0,fun _=>(0,0),rfl,Nat.zero_le _,⟨[],rfl,Row.nil _ _ _ _ _,fun e he=>by cases he⟩,bsame w1,fun _ _=>rfl⟩
 case round =>
  obtain⟨k,oo,rfl,hkm,hN,hb,hO⟩:=hrel;obtain⟨es,hes,hrow,hin⟩:=hN;have hel:(canonG G R (R.take k)).length=k:=by unfold canonG;rw[List.length_map,List.length_take,←HM.out];omega
  rw[hel]at hrow;by_cases hlt:k<m
  ·have hkI:(k:Int)<(m:Int):=by omega
   have HW:=Lib.hid (wrap_nat k (by omega))
   obtain⟨x,hx⟩:∃ x,R[k]?=some x:=⟨_,List.getElem?_eq_getElem (by rw[←HM.out];exact hlt)⟩
   obtain⟨g,e,hcell,hcap⟩:∃ g,pp=some ⟨g,0,none⟩∧wr.cell? ⟨g,k,none⟩=some (.int .i64 x)∧m≤cp:=by
    have hp2:=HP.out.below hb;rcases hp2.form with ⟨_,h0⟩|⟨g,cap,e,hcap,_⟩
    ·rw[←HM.out]at h0;omega
    ·injection e with e1 _ e3
     subst e1 e3;exact⟨g,rfl,hp2.cells k _ (by rw[List.getElem?_map,hx];rfl),by rw[HM.out];exact hcap⟩
   subst e;obtain⟨ob,hob⟩:=Option.isSome_iff_exists.1 (HI.out.inG x (List.mem_of_getElem? hx));have HNode:=Lib.hid (node_any (HGI.out.below (btrans HB1.out hb)) hob (HC.out.below hb));have hst:canonG G R (R.take (k+1))=canonG G R (R.take k)++[Nd.of R ob]:=by
    unfold canonG;rw[List.take_add_one,hx,List.map_append];simp[hob]
   obtain⟨pn,cn,rfl⟩:=hrow.slc;have HX:=Lib.hid (fun (w3 W5:World) (o3:Own) (v1 v2:Value) (r1:Row w3 o3 (51,0) 3 1 v1 ob.ptrs.length (ixs R ob.ptrs)) (r2:Row w3 o3 (52,0) 3 1 v2 ob.nums.length (ob.nums.map zv)) (hb3:Below wr.heap.size wr w3) (hO3:Old wr.heap.size o3) (hW5:Below w3.heap.size w3 W5) =>
    show Row W5 (ext (mixO oo o3 wr.heap.size) w3.heap.size (53,0)) (54,0) 120 8 (.slice pn k cn) k (ndcells es) ∧
     ∀ (w8:World) (o8:Own) (v8:Value),Row w8 o8 (54,0) 120 8 v8 (k+1) (ndcells es++nd8 (Nd.of R ob,v1,v2))→Stp (fun t=>t=(54,0)) (ext (mixO oo o3 wr.heap.size) w3.heap.size (53,0)) o8 W5 w8 →
      NdsIn w8 o8 v8 (canonG G R (R.take (k+1)))∧Below w1.heap.size w1 w8∧Old w1.heap.size o8 from by
     have s1:Stp (fun _=>False) oo (mixO oo o3 wr.heap.size) wr w3:=Stp.mixO o3 hb3
     have s2:Stp (fun _=>False) (mixO oo o3 wr.heap.size) (ext (mixO oo o3 wr.heap.size) w3.heap.size (53,0)) w3 W5:=(Stp.of_below hW5).ext _ _ (Nat.le_refl _)
     have s3:=s1.trans s2;refine⟨hrow.stp s3 id,fun w8 o8 v8 hr8 hs8=>⟨⟨es++[(Nd.of R ob,v1,v2)],?_,?_,?_⟩,?_,?_⟩⟩
     ·rw[List.map_append,hes,hst];rfl
     ·rw[ndcells_snoc]
      exact hr8.ite (by rw[hst,List.length_append,hel];rfl) rfl
     ·intro e he
      rcases List.mem_append.1 he with he|he
      ·obtain⟨q1,q2⟩:=hin e he
       exact⟨(q1.stp s3 id).stp hs8 (by simp),(q2.stp s3 id).stp hs8 (by simp)⟩
      ·simp only[List.mem_singleton]at he
       subst he;have q1:=((r1.mixO hO3 (by simp) oo).stp s2 id).stp hs8 (by simp)
       have q2:=((r2.mixO hO3 (by simp) oo).stp s2 id).stp hs8 (by simp)
       refine⟨q1.ite (by show _=(ob.ptrs.map (ixOf R)).length;rw[List.length_map]) (by show _=(ob.ptrs.map (ixOf R)).map zv;rw[List.map_map];rfl),q2⟩
     ·have kk:Stp (fun t=>t=(54,0)) oo o8 w1 w8:=((Stp.of_below hb).trans (s3.mono fun _ h=>h.elim)).trans hs8
      exact kk.below fun b hb2 e=>by rw[hO b hb2]at e;simp at e
     ·intro b hb2
      have hlw:b<wr.heap.size:=Nat.lt_of_lt_of_le hb2 hb.size;have hlw3:b<w3.heap.size:=Nat.lt_of_lt_of_le hlw hb3.size;rw[hs8.tags b (Nat.lt_of_lt_of_le hlw3 hW5.size),ext_lt hlw3,mixO_lt hlw];exact hO b hb2)
   have hml:k+1≤maxLen:=by simp only[maxLen];omega
   have hmb:(k+1)*88≤140737488355328:=by omega
   obtain⟨⟨sp,sd,wk,fn⟩,fr,se,ser,ptrs,nums⟩:=ob;simp only at HNode HX;clear hx hob hst hrow hin hes hel hb hO;go_wp2_with (first
    | (go_at_call 176;refine HNode.out.mono ?_;rintro e w3 ⟨v1,v2,o3,rfl,r1,r2,hb3,hO3⟩;obtain⟨p1,c1,rfl⟩:=r1.slc;obtain⟨p2,c2,rfl⟩:=r2.slc;have HOn:=Lib.hid (node_one (a:=ser) (b:=sp) (c:=sd) (d:=wk) (e:=fn) (f:=fr) (slc_one r1) (slc_one r2));have HXX:=Lib.hid (HX.out w3 _ o3 _ _ r1 r2 hb3 hO3 (balloc (balloc (bsame w3) (.cells #[.int .i64 ser,.int .i64 sp,.int .i64 sd,.bool wk,.bool fn,.bool fr,.slice p1 ptrs.length c1,.slice p2 nums.length c2] 120)) (.cells #[.int .i64 ser,.int .i64 sp,.int .i64 sd,.bool wk,.bool fn,.bool fr,.slice p1 ptrs.length c1,.slice p2 nums.length c2] 120)));have HJn:=Lib.hid (Blk.new_at (w3.alloc (.cells #[.int .i64 ser,.int .i64 sp,.int .i64 sd,.bool wk,.bool fn,.bool fr,.slice p1 ptrs.length c1,.slice p2 nums.length c2] 120)) _ #[.int .i64 ser,.int .i64 sp,.int .i64 sd,.bool wk,.bool fn,.bool fr,.slice p1 ptrs.length c1,.slice p2 nums.length c2] 120 (w3.heap.size+1) (by simp) rfl))
    | (at_builtin;refine wpList_append_row _ rfl _ _ _ rfl 120 iN _ 8 88 huN hiN hzN hsN hyN rfl (by decide) (ext (mixO oo o3 wr.heap.size) w3.heap.size (53,0)) (54,0) _ _ _ rfl HXX.out.1 ⟨w3.heap.size+1,0,none⟩ 1 1 [.int .i64 ser,.int .i64 sp,.int .i64 sd,.bool wk,.bool fn,.bool fr,.slice p1 ptrs.length c1,.slice p2 nums.length c2] rfl rfl (news_blk HJn.out) HOn.out hml hmb ?_;intro v8 w8 hown hst;have HF:=Lib.hid (HXX.out.2 w8 _ v8 hown hst);clear hown hst)
    | fail)
   obtain⟨hw1,hw2⟩:=HW.out;go_wp2_with fail;go_roundw
   case rel=>exact⟨k+1,_,by simp,hlt,HF.out⟩
   case measure=>clear hw1 hw2 hml hmb;simp[intOf];omega
  ·obtain rfl:k=m:=by omega
   have hcan:R.take k=R:=by rw[HM.out,List.take_length]
   rw[hcan]at hes hel;obtain⟨pn,cn,rfl⟩:=hrow.slc;have HNd:=Lib.hid (show NdsIn wr oo (.slice pn k cn) (canonG G R R) from ⟨es,hes,by rw[hel];exact hrow,hin⟩)
   have HBO:=Lib.hid (And.intro hb hO);clear hes hel hrow hin hcan hb hO hlt hkm;go_wp2_with fail;go_loopw [14,52] (fun vs ix wx=>∃ (j:Nat) (o4:Own),ix=.int .i64 j∧j≤n∧Row wx o4 (55,0) 3 1 vs j (ixs R (roots.take j))∧NdsIn wx o4 (.slice pn k cn) (canonG G R R)∧Below w1.heap.size w1 wx∧Old w1.heap.size o4) (fun _ ix _=>n-(intOf ix).toNat)
   case atStart=>exact⟨0,oo,rfl,Nat.zero_le _,Row.nil _ _ _ _ _,HNd.out,HBO.out⟩
   case round =>
    clear HNd HBO;obtain⟨j,o4,rfl,hjn,hr4,hN4,hb4,hO4⟩:=hrel;by_cases hlt:j<n
    ·have hjI:(j:Int)<(n:Int):=by omega
     have hnn:=HNm.out;have HW:=Lib.hid (wrap_nat j (by omega))
     obtain⟨x,hx⟩:∃ x,roots[j]?=some x:=⟨_,List.getElem?_eq_getElem (by rw[←HN.out];exact hlt)⟩
     obtain⟨g,e,hcell,hcap⟩:∃ g,pv=some ⟨g,0,none⟩∧wr.cell? ⟨g,j,none⟩=some (.int .i64 x)∧n≤cv:=by
      have hv2:=(HV.out.below HB1.out).below hb4;rcases hv2.form with ⟨_,h0⟩|⟨g,cap,e,hcap,_⟩
      ·omega
      ·injection e with e1 _ e3
       subst e1 e3;exact⟨g,rfl,hv2.cells j _ (by rw[List.getElem?_map,hx];rfl),hcap⟩
     subst e;have hxb:=HGO.out.bd HRo.out (List.mem_of_getElem? hx);have HIx:=Lib.hid (index_any (HC.out.below hb4) x (by omega))
     have HTk:=Lib.hid (show ixs R (roots.take (j+1))=ixs R (roots.take j)++[.int .i64 (ixOf R x)] from by rw[List.take_add_one,hx];unfold ixs;rw[List.map_append];rfl)
     obtain⟨ps,cs,rfl⟩:=hr4.slc;have hml:j+1≤maxLen:=by simp only[maxLen];omega
     have hmb:(j+1)*8≤140737488355328:=by omega
     have HRn:=Lib.hid (hr4.below (balloc (bsame wr) (.cells #[.int .i64 (ixOf R x)] 3)));have HX:=Lib.hid (fun (w8:World) (o8:Own) (v8:Value) (hr8:Row w8 o8 (55,0) 3 1 v8 (j+1) (ixs R (roots.take j)++[.int .i64 (ixOf R x)])) (hs8:Stp (fun t=>t=(55,0)) o4 o8 (wr.alloc (.cells #[.int .i64 (ixOf R x)] 3)) w8) =>
      show Row w8 o8 (55,0) 3 1 v8 (j+1) (ixs R (roots.take (j+1)))∧NdsIn w8 o8 (.slice pn k cn) (canonG G R R)∧Below w1.heap.size w1 w8∧Old w1.heap.size o8 from by
       have s:Stp (fun t=>t=(55,0)) o4 o8 wr w8:=(Stp.of_below (balloc (bsame wr) _)).trans hs8
       have kk:Stp (fun t=>t=(55,0)) o4 o8 w1 w8:=(Stp.of_below hb4).trans s
       refine⟨by rw[HTk.out];exact hr8,hN4.stp s (by simp) (by simp) (by simp),kk.below fun b hb2 e=>?_,fun b hb2=>(kk.tags b hb2).trans (hO4 b hb2)⟩
       rw[hO4 b hb2]at e;simp at e)
     clear hr4 hN4 hb4 hO4 hx hxb hnn;go_wp2_with (first
      | (go_at_call 177;refine HIx.out.mono ?_;rintro e w3 ⟨rfl,rfl⟩)
      | (at_builtin;refine wpList_append_row _ rfl _ _ _ rfl 3 iI _ 1 8 hu64 hi hzI hsI hyI rfl (by decide) o4 (55,0) _ _ _ rfl HRn.out ⟨wr.heap.size,0,none⟩ 1 1 [.int .i64 (ixOf R x)] rfl rfl (news_one (Blk.new wr _ _)) one_i64 hml hmb ?_;intro v8 w8 hown hst;have HF:=Lib.hid (HX.out w8 _ v8 hown hst);clear hown hst)
      | fail)
     obtain⟨hw1,hw2⟩:=HW.out;go_wp2_with fail;go_roundw
     case rel=>exact⟨j+1,_,by simp,hlt,HF.out⟩
     case measure=>clear hw1 hw2 hml hmb;simp[intOf];omega
    ·obtain rfl:j=n:=by omega
     rw[HN.out,List.take_length,←HN.out]at hr4;have HX:=Lib.hid (And.intro hN4 (And.intro hr4 (And.intro (btrans HB1.out hb4) (show Old w.heap.size o4 from fun b hb=>hO4 b (Nat.lt_of_lt_of_le hb HB1.out.size)))))
     clear hN4 hr4 hb4 hO4;go_wp2_with fail;go_ret3;exact⟨_,_,o4,rfl,HX.out⟩
end
end Go.Proofs.YteehgedabdchcaaGreat
