import Derived.Test.YteehgedabdchcaaGreatKar
import Derived.Test.YteehgedabdchcaaGreatKau
import Derived.Test.YteehgedabdchcaaGreatKbp
set_option linter.all false
set_option maxRecDepth 1000000
set_option maxHeartbeats 16000000
namespace Go.Proofs.YteehgedabdchcaaGreat
open Go.RowKit Hp Go.Maps
attribute [local go_sem ↓] Go.wp_at_zero Go.wp_at_succ
structure Nd where
 ser:Nat
 shp:Shp
 freed:Bool
 ptrs:List Int
 nums:List Int
def Nd.of (P:List Nat)(x:Ob):Nd:=⟨x.serial,x.shp,x.freed,x.ptrs.map (ml P),x.nums⟩
def Nd.none:Nd:=⟨0,⟨0,0,false,false⟩,false,[],[]⟩
def nd8 (e:Nd×Value×Value):List Value:=[.int .i64 e.1.ser,.int .i64 e.1.shp.p,.int .i64 e.1.shp.d,.bool e.1.shp.weak,.bool e.1.shp.final,.bool e.1.freed,e.2.1,e.2.2]
def fe (es:List (Nd×Value×Value)):List Value:=es.flatMap nd8
theorem qe4 (es:List (Nd×Value×Value))(e:Nd×Value×Value):fe (es++[e])=fe es++nd8 e:=by unfold fe;simp
structure NdsIn (W:World)(o:Own)(v:Value)(l:List Nd):Prop where
 es:∃ es:List (Nd×Value×Value),es.map (·.1)=l∧Row W o (54,0) 120 8 v l.length (fe es) ∧
  ∀ e ∈ es,Row W o (51,0) 3 1 e.2.1 e.1.ptrs.length (e.1.ptrs.map zv)∧Row W o (52,0) 3 1 e.2.2 e.1.nums.length (e.1.nums.map zv)
def xu (G:Gf)(P l:List Nat):List Nd:=l.map fun p=>match G p with|some x=>Nd.of P x|none=>Nd.none
def mixO (o o2:Own)(n:Nat):Own:=fun b=>if b<n then o b else o2 b
theorem qk6 {o o2:Own}{n b:Nat}(h:b<n):mixO o o2 n b=o b:=if_pos h
theorem Row.mixO {W:World}{o2:Own}{n:Nat}{t:Tag}{e:TypeId}{size k:Nat}{v:Value}{xs:List Value}(h:Row W o2 t e size v k xs)(hO:Old n o2)(ht:t≠(0,0))(o:Own):Row W (mixO o o2 n) t e size v k xs:=
 ⟨h.own,fun b hb=>by
  have h1:=h.tag b hb;show (if b<n then o b else o2 b)=t
  rw[if_neg fun hl=>ht (by rw[←h1];exact hO b hl)];exact h1⟩
theorem Stp.mixO {T:Tag→Prop} {o:Own} {w W:World} (o2:Own) (h:Below w.heap.size w W):Stp T o (mixO o o2 w.heap.size) w W:=
 let s:=Stp.of_below (T:=T) (o:=o) h
 ⟨s.os,s.tape,s.output,s.size,fun _ hb=>qk6 hb,s.block⟩
theorem qkw {w:World}{o:Own}{t:Tag}{e:TypeId}{size n:Nat}{v:Value}{xs:List Value}(h:Row w o t e size v n xs):v.oneCell'=true:=by obtain⟨_,_,rfl⟩:=h.slc;rfl
theorem node_one {a b c:Int}{d e f:Bool}{v1 v2:Value}(h1:v1.oneCell'=true)(h2:v2.oneCell'=true):∀ u ∈ [Value.int .i64 a,.int .i64 b,.int .i64 c,.bool d,.bool e,.bool f,v1,v2],u.oneCell'=true:=by
 intro u hu;simp at hu;rcases hu with rfl|rfl|rfl|rfl|rfl|rfl|rfl|rfl<;>first|rfl|assumption
theorem NdsIn.stp {T:Tag→Prop}{W W':World}{o o':Own}{v:Value}{l:List Nd}(h:NdsIn W o v l)(k:Stp T o o' W W')(h4:¬T (54,0))(h1:¬T (51,0))(h2:¬T (52,0)):NdsIn W' o' v l:=by
 obtain⟨es,he,hr,hi⟩:=h;exact⟨es,he,hr.stp k h4,fun e h=>⟨(hi e h).1.stp k h1,(hi e h).2.stp k h2⟩⟩
theorem qm3:∃ i,Tryz.prog.info? 120=some i∧i.size=8∧i.bytes=88∧i.zero=some (.agg #[.int .i64 0,.int .i64 0,.int .i64 0,.bool false,.bool false,.bool false,.slice none 0 0,.slice none 0 0]):=info_parts (by kernel_rfl)
section
variable {w w' : World} {a wd L : Nat} {f : Nat → Nat} {G : Gf} {K : List Nat}
theorem qj3 (h:GIn w a wd L f G) (hG:GOk G K) {v:Value} {roots:List Nat} {o:Own} {t:Tag} (hv:Row w o t 3 1 v roots.length (roots.map nv)) (hr:OkP G roots) (hn:roots.length≤1000000) :
  Calls Tryz.prog 114 #[.pointer (some ⟨a,0,none⟩),v] w fun e w'=>∃ v1 v2 oo,e=.returned (.tuple #[v1,v2,.int .i64 0])∧NdsIn w' oo v1 (xu G (g6 G K.length roots) (g6 G K.length roots)) ∧
   Row w' oo (55,0) 3 1 v2 roots.length (ixs (g6 G K.length roots) roots)∧Below w.heap.size w w'∧Old w.heap.size oo:=by
 obtain⟨iN,hiN,hsN,hyN,hzN⟩:=qm3;obtain⟨iI,hi,hsI,hyI,hzI⟩:=zg;have huN:=Tryz.underlying28;have hu64:=Tryz.underlying25;have HFr:=Lib.hid (from_any h hG hv hr hn);obtain⟨R,hR⟩:∃ R,R=g6 G K.length roots:=⟨_,rfl⟩;rw[←hR]at HFr ⊢;obtain⟨pv,cv,rfl⟩:=hv.slc;have HV:=Lib.hid hv;have HGI:=Lib.hid h;have HGO:=Lib.hid hG;have HRo:=Lib.hid hr;obtain⟨n,hnn⟩:∃ n,n=roots.length:=⟨_,rfl⟩;rw[←hnn]at HV HFr hn ⊢;have HN:=Lib.hid hnn;have HNm:=Lib.hid hn;clear hR h hG hv hr hnn hn;go_enter Tryz.func114,Tryz.ntmps114;go_wp2_with (first
  | (go_at_call 175;refine HFr.out.mono ?_;rintro e w1 ⟨c,mb,oc,rfl,hC,hI,hb1,hO1⟩;obtain⟨vp,jc,hp⟩:=hC.blk;obtain⟨pp,cp,rfl⟩:=hp.slc;have cc:=jc.cell)
  | fail)
 obtain⟨m,hm⟩:∃ m,m=R.length:=⟨_,rfl⟩;rw[←hm];have hK:=HGO.out.num;have hmK:m≤100000:=by rw[hm];exact Nat.le_trans (hI.le HGO.out.keys) hK
 have HC:=Lib.hid hC;have HI:=Lib.hid hI;have HB1:=Lib.hid hb1;have HP:=Lib.hid hp;have HM:=Lib.hid hm;clear hC hI hb1 hO1 hp hm jc cc hK HFr;go_loopw [9,31] (fun vn ix wr=>∃ (k:Nat) (oo:Own),ix=.int .i64 k∧k≤m∧NdsIn wr oo vn (xu G R (R.take k))∧Below w1.heap.size w1 wr∧Old w1.heap.size oo) (fun _ ix _=>m-(intOf ix).toNat)
 case atStart=>exact⟨0,fun _=>(0,0),rfl,Nat.zero_le _,⟨[],rfl,Row.nil _ _ _ _ _,fun e he=>by cases he⟩,qc w1,fun _ _=>rfl⟩
 case round =>
  obtain⟨k,oo,rfl,hkm,hN,hb,hO⟩:=hrel;obtain⟨es,hes,hrow,hin⟩:=hN;have hel:(xu G R (R.take k)).length=k:=by unfold xu;rw[List.length_map,List.length_take,←HM.out];omega
  rw[hel]at hrow;by_cases hlt:k<m
  ·have hkI:(k:Int)<(m:Int):=by omega
   have HW:=Lib.hid (qr k (by omega))
   obtain⟨x,hx⟩:∃ x,R[k]?=some x:=⟨_,List.getElem?_eq_getElem (by rw[←HM.out];exact hlt)⟩
   obtain⟨g,e,hcell,hcap⟩:∃ g,pp=some ⟨g,0,none⟩∧wr.cell? ⟨g,k,none⟩=some (.int .i64 x)∧m≤cp:=by
    have hp2:=HP.out.below hb;rcases hp2.form with ⟨_,h0⟩|⟨g,cap,e,hcap,_⟩
    ·rw[←HM.out]at h0;omega
    ·injection e with e1 _ e3
     subst e1 e3;exact⟨g,rfl,hp2.cells k _ (by rw[List.getElem?_map,hx];rfl),by rw[HM.out];exact hcap⟩
   subst e;obtain⟨ob,hob⟩:=Option.isSome_iff_exists.1 (HI.out.inG x (List.mem_of_getElem? hx));have HNode:=Lib.hid (node_any (HGI.out.below (qd HB1.out hb)) hob (HC.out.below hb));have hst:xu G R (R.take (k+1))=xu G R (R.take k)++[Nd.of R ob]:=by
    unfold xu;rw[List.take_add_one,hx,List.map_append];simp[hob]
   obtain⟨pn,cn,rfl⟩:=hrow.slc;have HX:=Lib.hid (fun (w3 W5:World) (o3:Own) (v1 v2:Value) (r1:Row w3 o3 (51,0) 3 1 v1 ob.ptrs.length (ixs R ob.ptrs)) (r2:Row w3 o3 (52,0) 3 1 v2 ob.nums.length (ob.nums.map zv)) (hb3:Below wr.heap.size wr w3) (hO3:Old wr.heap.size o3) (hW5:Below w3.heap.size w3 W5) =>
    show Row W5 (ext (mixO oo o3 wr.heap.size) w3.heap.size (53,0)) (54,0) 120 8 (.slice pn k cn) k (fe es) ∧
     ∀ (w8:World) (o8:Own) (v8:Value),Row w8 o8 (54,0) 120 8 v8 (k+1) (fe es++nd8 (Nd.of R ob,v1,v2))→Stp (fun t=>t=(54,0)) (ext (mixO oo o3 wr.heap.size) w3.heap.size (53,0)) o8 W5 w8 →
      NdsIn w8 o8 v8 (xu G R (R.take (k+1)))∧Below w1.heap.size w1 w8∧Old w1.heap.size o8 from by
     have s1:Stp (fun _=>False) oo (mixO oo o3 wr.heap.size) wr w3:=Stp.mixO o3 hb3
     have s2:Stp (fun _=>False) (mixO oo o3 wr.heap.size) (ext (mixO oo o3 wr.heap.size) w3.heap.size (53,0)) w3 W5:=(Stp.of_below hW5).ext _ _ (Nat.le_refl _)
     have s3:=s1.trans s2;refine⟨hrow.stp s3 id,fun w8 o8 v8 hr8 hs8=>⟨⟨es++[(Nd.of R ob,v1,v2)],?_,?_,?_⟩,?_,?_⟩⟩
     ·rw[List.map_append,hes,hst];rfl
     ·rw[qe4]
      exact hr8.ite (by rw[hst,List.length_append,hel];rfl) rfl
     ·intro e he
      rcases List.mem_append.1 he with he|he
      ·obtain⟨q1,q2⟩:=hin e he
       exact⟨(q1.stp s3 id).stp hs8 (by simp),(q2.stp s3 id).stp hs8 (by simp)⟩
      ·simp only[List.mem_singleton]at he
       subst he;have q1:=((r1.mixO hO3 (by simp) oo).stp s2 id).stp hs8 (by simp)
       have q2:=((r2.mixO hO3 (by simp) oo).stp s2 id).stp hs8 (by simp)
       refine⟨q1.ite (by show _=(ob.ptrs.map (ml R)).length;rw[List.length_map]) (by show _=(ob.ptrs.map (ml R)).map zv;rw[List.map_map];rfl),q2⟩
     ·have kk:Stp (fun t=>t=(54,0)) oo o8 w1 w8:=((Stp.of_below hb).trans (s3.mono fun _ h=>h.elim)).trans hs8
      exact kk.below fun b hb2 e=>by rw[hO b hb2]at e;simp at e
     ·intro b hb2
      have hlw:b<wr.heap.size:=Nat.lt_of_lt_of_le hb2 hb.size;have hlw3:b<w3.heap.size:=Nat.lt_of_lt_of_le hlw hb3.size;rw[hs8.tags b (Nat.lt_of_lt_of_le hlw3 hW5.size),qj hlw3,qk6 hlw];exact hO b hb2)
   have hml:k+1≤maxLen:=by simp only[maxLen];omega
   have hmb:(k+1)*88≤140737488355328:=by omega
   obtain⟨⟨sp,sd,wk,fn⟩,fr,se,ser,ptrs,nums⟩:=ob;simp only at HNode HX;clear hx hob hst hrow hin hes hel hb hO;go_wp2_with (first
    | (go_at_call 176;refine HNode.out.mono ?_;rintro e w3 ⟨v1,v2,o3,rfl,r1,r2,hb3,hO3⟩;obtain⟨p1,c1,rfl⟩:=r1.slc;obtain⟨p2,c2,rfl⟩:=r2.slc;have HOn:=Lib.hid (node_one (a:=ser) (b:=sp) (c:=sd) (d:=wk) (e:=fn) (f:=fr) (qkw r1) (qkw r2));have HXX:=Lib.hid (HX.out w3 _ o3 _ _ r1 r2 hb3 hO3 (qa (qa (qc w3) (.cells #[.int .i64 ser,.int .i64 sp,.int .i64 sd,.bool wk,.bool fn,.bool fr,.slice p1 ptrs.length c1,.slice p2 nums.length c2] 120)) (.cells #[.int .i64 ser,.int .i64 sp,.int .i64 sd,.bool wk,.bool fn,.bool fr,.slice p1 ptrs.length c1,.slice p2 nums.length c2] 120)));have HJn:=Lib.hid (Blk.new_at (w3.alloc (.cells #[.int .i64 ser,.int .i64 sp,.int .i64 sd,.bool wk,.bool fn,.bool fr,.slice p1 ptrs.length c1,.slice p2 nums.length c2] 120)) _ #[.int .i64 ser,.int .i64 sp,.int .i64 sd,.bool wk,.bool fn,.bool fr,.slice p1 ptrs.length c1,.slice p2 nums.length c2] 120 (w3.heap.size+1) (by simp) rfl))
    | (at_builtin;refine qf _ rfl _ _ _ rfl 120 iN _ 8 88 huN hiN hzN hsN hyN rfl (by decide) (ext (mixO oo o3 wr.heap.size) w3.heap.size (53,0)) (54,0) _ _ _ rfl HXX.out.1 ⟨w3.heap.size+1,0,none⟩ 1 1 [.int .i64 ser,.int .i64 sp,.int .i64 sd,.bool wk,.bool fn,.bool fr,.slice p1 ptrs.length c1,.slice p2 nums.length c2] rfl rfl (yq HJn.out) HOn.out hml hmb ?_;intro v8 w8 hown hst;have HF:=Lib.hid (HXX.out.2 w8 _ v8 hown hst);clear hown hst)
    | fail)
   obtain⟨hw1,hw2⟩:=HW.out;go_wp2_with fail;go_roundw
   case rel=>exact⟨k+1,_,by simp,hlt,HF.out⟩
   case measure=>clear hw1 hw2 hml hmb;simp[intOf];omega
  ·obtain rfl:k=m:=by omega
   have hcan:R.take k=R:=by rw[HM.out,List.take_length]
   rw[hcan]at hes hel;obtain⟨pn,cn,rfl⟩:=hrow.slc;have HNd:=Lib.hid (show NdsIn wr oo (.slice pn k cn) (xu G R R) from ⟨es,hes,by rw[hel];exact hrow,hin⟩)
   have HBO:=Lib.hid (And.intro hb hO);clear hes hel hrow hin hcan hb hO hlt hkm;go_wp2_with fail;go_loopw [14,52] (fun vs ix wx=>∃ (j:Nat) (o4:Own),ix=.int .i64 j∧j≤n∧Row wx o4 (55,0) 3 1 vs j (ixs R (roots.take j))∧NdsIn wx o4 (.slice pn k cn) (xu G R R)∧Below w1.heap.size w1 wx∧Old w1.heap.size o4) (fun _ ix _=>n-(intOf ix).toNat)
   case atStart=>exact⟨0,oo,rfl,Nat.zero_le _,Row.nil _ _ _ _ _,HNd.out,HBO.out⟩
   case round =>
    clear HNd HBO;obtain⟨j,o4,rfl,hjn,hr4,hN4,hb4,hO4⟩:=hrel;by_cases hlt:j<n
    ·have hjI:(j:Int)<(n:Int):=by omega
     have hnn:=HNm.out;have HW:=Lib.hid (qr j (by omega))
     obtain⟨x,hx⟩:∃ x,roots[j]?=some x:=⟨_,List.getElem?_eq_getElem (by rw[←HN.out];exact hlt)⟩
     obtain⟨g,e,hcell,hcap⟩:∃ g,pv=some ⟨g,0,none⟩∧wr.cell? ⟨g,j,none⟩=some (.int .i64 x)∧n≤cv:=by
      have hv2:=(HV.out.below HB1.out).below hb4;rcases hv2.form with ⟨_,h0⟩|⟨g,cap,e,hcap,_⟩
      ·omega
      ·injection e with e1 _ e3
       subst e1 e3;exact⟨g,rfl,hv2.cells j _ (by rw[List.getElem?_map,hx];rfl),hcap⟩
     subst e;have hxb:=HGO.out.bd HRo.out (List.mem_of_getElem? hx);have HIx:=Lib.hid (qel (HC.out.below hb4) x (by omega))
     have HTk:=Lib.hid (show ixs R (roots.take (j+1))=ixs R (roots.take j)++[.int .i64 (ml R x)] from by rw[List.take_add_one,hx];unfold ixs;rw[List.map_append];rfl)
     obtain⟨ps,cs,rfl⟩:=hr4.slc;have hml:j+1≤maxLen:=by simp only[maxLen];omega
     have hmb:(j+1)*8≤140737488355328:=by omega
     have HRn:=Lib.hid (hr4.below (qa (qc wr) (.cells #[.int .i64 (ml R x)] 3)));have HX:=Lib.hid (fun (w8:World) (o8:Own) (v8:Value) (hr8:Row w8 o8 (55,0) 3 1 v8 (j+1) (ixs R (roots.take j)++[.int .i64 (ml R x)])) (hs8:Stp (fun t=>t=(55,0)) o4 o8 (wr.alloc (.cells #[.int .i64 (ml R x)] 3)) w8) =>
      show Row w8 o8 (55,0) 3 1 v8 (j+1) (ixs R (roots.take (j+1)))∧NdsIn w8 o8 (.slice pn k cn) (xu G R R)∧Below w1.heap.size w1 w8∧Old w1.heap.size o8 from by
       have s:Stp (fun t=>t=(55,0)) o4 o8 wr w8:=(Stp.of_below (qa (qc wr) _)).trans hs8
       have kk:Stp (fun t=>t=(55,0)) o4 o8 w1 w8:=(Stp.of_below hb4).trans s
       refine⟨by rw[HTk.out];exact hr8,hN4.stp s (by simp) (by simp) (by simp),kk.below fun b hb2 e=>?_,fun b hb2=>(kk.tags b hb2).trans (hO4 b hb2)⟩
       rw[hO4 b hb2]at e;simp at e)
     clear hr4 hN4 hb4 hO4 hx hxb hnn;go_wp2_with (first
      | (go_at_call 177;refine HIx.out.mono ?_;rintro e w3 ⟨rfl,rfl⟩)
      | (at_builtin;refine qf _ rfl _ _ _ rfl 3 iI _ 1 8 hu64 hi hzI hsI hyI rfl (by decide) o4 (55,0) _ _ _ rfl HRn.out ⟨wr.heap.size,0,none⟩ 1 1 [.int .i64 (ml R x)] rfl rfl (qx (Blk.new wr _ _)) zo hml hmb ?_;intro v8 w8 hown hst;have HF:=Lib.hid (HX.out w8 _ v8 hown hst);clear hown hst)
      | fail)
     obtain⟨hw1,hw2⟩:=HW.out;go_wp2_with fail;go_roundw
     case rel=>exact⟨j+1,_,by simp,hlt,HF.out⟩
     case measure=>clear hw1 hw2 hml hmb;simp[intOf];omega
    ·obtain rfl:j=n:=by omega
     rw[HN.out,List.take_length,←HN.out]at hr4;have HX:=Lib.hid (And.intro hN4 (And.intro hr4 (And.intro (qd HB1.out hb4) (show Old w.heap.size o4 from fun b hb=>hO4 b (Nat.lt_of_lt_of_le hb HB1.out.size)))))
     clear hN4 hr4 hb4 hO4;go_wp2_with fail;go_ret3;exact⟨_,_,o4,rfl,HX.out⟩
end
end Go.Proofs.YteehgedabdchcaaGreat
namespace Go.Proofs.YteehgedabdchcaaGreat
open Go.RowKit Hp
attribute [local go_sem ↓] Go.wp_at_zero Go.wp_at_succ
structure PlS (w:World)(g off:Nat)(l:List Nat)(c:Nat):Prop where
 cap:l.length≤c
 lt:g<w.heap.size
 at':∀ (j x:Nat),l[j]?=some x→w.cell? ⟨g,off+j,none⟩=some (nv x)
theorem PlS.stp {T:Tag→Prop}{w w':World}{o o':Own}{g off c:Nat}{l:List Nat}(h:PlS w g off l c)(hs:Stp T o o' w w')(ht:¬T (o g)):PlS w' g off l c:=
 ⟨h.cap,Nat.lt_of_lt_of_le h.lt hs.size,fun j x hj=>by
  have:=hs.block g h.lt ht;rw[←h.at' j x hj];simp only[World.cell?,this]⟩
theorem PlS.below {w w':World} {g off c:Nat} {l:List Nat} (h:PlS w g off l c) (hb:Below w.heap.size w w'):PlS w' g off l c:=h.stp (o:=o00) (o':=o00) (T:=fun _=>False) (Stp.of_below hb) fun h=>h
theorem PlS.drop {w:World}{g off c:Nat}{l:List Nat}(h:PlS w g off l c){n:Nat}(hn:n≤l.length) :
  ∃ off',(if c=n then some (⟨g,off,none⟩:Addr) else some ⟨g,off+n,none⟩)=some ⟨g,off',none⟩∧PlS w g off' (l.drop n) (c-n):=by
 by_cases hc:c=n
 ·refine⟨off,if_pos hc,by rw[List.length_drop];have:=h.cap;omega,h.lt,fun j x hj=>?_⟩
  have h1:=h.cap;rw[List.drop_eq_nil_of_le (by omega)]at hj
  simp at hj
 ·refine⟨off+n,if_neg hc,by rw[List.length_drop];have:=h.cap;omega,h.lt,fun j x hj=>?_⟩
  rw[List.getElem?_drop]at hj;rw[Nat.add_assoc];exact h.at' (n+j) x hj
theorem PlS.take {w:World}{g off c:Nat}{l:List Nat}(h:PlS w g off l c){n:Nat}(hn:n≤l.length):PlS w g off (l.take n) c:=
 ⟨by rw[List.length_take];have:=h.cap;omega,h.lt,fun j x hj=>by
  rw[List.getElem?_take]at hj;split at hj
  ·exact h.at' j x hj
  ·cases hj⟩
theorem PlS.intsT {T:Tag→Prop}{w:World}{o:Own}{g off c:Nat}{l:List Nat}(h:PlS w g off l c)(ht:¬T (o g)):IntsT T w o (.slice (some ⟨g,off,none⟩) l.length c) l:=
 ⟨_,_,rfl,fun j x hj=>⟨g,off,rfl,h.lt,ht,h.at' j x hj⟩⟩
section
variable {w w' : World} {o o' : Own} {y : SLay} {S : Stt} {i : Nat}
theorem StIn.cyc (h:StIn w o y S){H':Hp}{n:Nat}{T:Tag→Prop}(hH:HpAt w' o' y.l H')(hc:Blk w' y.cy (qj6 y (phF y.cy n)) 201)(hs:Stp T o o' w w')(hn:∀ j,10≤j→¬T (y.l.id,j)):StIn w' o' y { S with H:=H',ph:=n }:=by
 obtain⟨vq,vl,vm,hb,hr⟩:=h.blk;have hr':=hr.stp hs fun j _ _=>hn j (by omega)
 exact⟨⟨vq,vl,vm,hb.stp hs (by rw[h.os];exact hn _ (by omega)),hr'.1,hr'.2,hr'.3⟩,hc,hH,h.ck.stp hs (by rw[h.oc];exact hn _ (by omega)),h.thr.stp hs (hn _ (by omega)),fun i x hx=>(h.txs i x hx).stp hs fun j _=>hn _ (by omega),(hs.tags _ h.ck.lt).trans h.oc,(hs.tags _ h.lt).trans h.os,(hs.tags _ h.cy.lt).trans h.oy⟩
def Tx.putL (x:Tx)(ps:List Nat):Tx:={ x with log:=x.log.put ps }
def Tx.putT (x:Tx)(ps:List Nat):Tx:={ x with took:=kl x.took ps }
theorem qfu (h:StIn w o y S)(hk:(S.t i).log.fit)(hi:i<S.txs.length){g off c:Nat}{ps:List Nat}(hv:PlS w g off ps c)(hg:(o g).1≠y.l.id)(hn:ps.length=(S.t i).log.roots.length) :
  Calls Tryz.prog 66 #[ptr (y.lb i),.slice (some ⟨g,off,none⟩) ps.length c] w fun e w'=>e=.returned (.bool true)∧∃ o',StIn w' o' y (S.tx i ((S.t i).putL ps))∧Stp (dh y.l.id (17+8*i)) o o' w w':=by
 have hx:=h.txs i _ (Stt.t_get hi);obtain⟨vr,vk,vh,vu,hl⟩:=hx.log;obtain⟨vt,hb,hr⟩:=hx.blk;refine (qhc hl hk (hv.intsT fun ht=>hg ht.1) hn).mono ?_
 rintro e w' ⟨rfl,o',hl',hs⟩
 have ht:∀ t,dh y.l.id (17+8*i) t→yv y i t:=fun t ⟨h1,h2,h3⟩=>⟨h1,by omega,by omega⟩
 have n0:¬dh y.l.id (17+8*i) (y.l.id,16+8*i):=fun hh=>by have:=hh.2.1;simp only at this;omega
 have n6:¬dh y.l.id (17+8*i) (y.l.id,22+8*i):=fun hh=>by have:=hh.2.2;simp only at this;omega
 exact⟨rfl,o',h.tx (x':=(S.t i).putL ps) ⟨⟨vt,hb.stp hs (by rw[hx.ob];exact n0),hr.stp hs n6⟩,⟨vr,vk,vh,vu,hl'⟩,(hs.tags _ hb.lt).trans hx.ob⟩ (hs.mono ht),hs⟩
theorem qi2 (h:StIn w o y S)(hi:i<S.txs.length){g off c:Nat}{ps:List Nat}(hv:PlS w g off ps c)(hg:(o g).1≠y.l.id)(hn:(S.t i).took.length≤ps.length)(hq:(S.t i).took.length≤1099511627776) :
  ∃ off2 pt ct,Blk w (y.xb i) (zd i (S.t i) (y.lb i) (.slice pt (S.t i).took.length ct)) 107∧PlS w g off2 (ps.drop (S.t i).took.length) (c-(S.t i).took.length) ∧
  Calls Tryz.prog 64 #[.slice pt (S.t i).took.length ct,.slice (some ⟨g,off,none⟩) ps.length c] w fun e w'=>e=.returned (.slice (some ⟨g,off2,none⟩) (ps.length-(S.t i).took.length) (c-(S.t i).took.length)) ∧
   StIn w' o y (S.tx i ((S.t i).putT ps))∧Stp (fun t=>t=(y.l.id,22+8*i)) o o w w':=by
 have hx:=h.txs i _ (Stt.t_get hi);obtain⟨vr,vk,vh,vu,hl⟩:=hx.log;obtain⟨vt,hb,hr⟩:=hx.blk;obtain⟨pt,ct,rfl⟩:=hr.slc;obtain⟨off2,hoff,hd⟩:=hv.drop hn;refine⟨off2,pt,ct,hb,hd,(qei hr hn hq hv.cap hv.at' hv.lt fun e=>hg (by rw[e])).mono ?_⟩
 rintro e w' ⟨rfl,hr',hs⟩
 rw[hoff];have ht:∀ t,t=(y.l.id,22+8*i)→yv y i t:=fun t e=>by rw[e];exact⟨rfl,by simp only;omega,by simp only;omega⟩
 refine⟨rfl,h.tx (x':=(S.t i).putT ps) ⟨⟨_,hb.stp hs (by rw[hx.ob];simp),?_⟩,⟨vr,vk,vh,vu,hl.stp hs fun j hj=>by simp;omega⟩,(hs.tags _ hb.lt).trans hx.ob⟩ (hs.mono ht),hs⟩
 show Row w' o _ _ 2 _ (kl (S.t i).took ps).length (qg (kl (S.t i).took ps));rw[gi];exact hr'
theorem qgm (h:StIn w o y S){g off c:Nat}{ps:List Nat}(hv:PlS w g off ps c)(hg:(o g).1≠y.l.id)(hn:S.queue.length≤ps.length)(hq:S.queue.length≤1099511627776) :
  ∃ off2 pt ct vl vm,Blk w y.sb (qk y S (.slice pt S.queue.length ct) vl vm) 101∧PlS w g off2 (ps.drop S.queue.length) (c-S.queue.length) ∧
  Calls Tryz.prog 64 #[.slice pt S.queue.length ct,.slice (some ⟨g,off,none⟩) ps.length c] w fun e w'=>e=.returned (.slice (some ⟨g,off2,none⟩) (ps.length-S.queue.length) (c-S.queue.length)) ∧
   StIn w' o y { S with queue:=kl S.queue ps }∧Stp (fun t=>t=(y.l.id,13)) o o w w':=by
 obtain⟨vq,vl,vm,hb,hr⟩:=h.blk;have hrq:=hr.q;obtain⟨pt,ct,rfl⟩:=hrq.slc;obtain⟨off2,hoff,hd⟩:=hv.drop hn;refine⟨off2,pt,ct,vl,vm,hb,hd,(qei hrq hn hq hv.cap hv.at' hv.lt fun e=>hg (by rw[e])).mono ?_⟩
 rintro e w' ⟨rfl,hr',hs⟩
 rw[hoff];have ht:∀ t,t=(y.l.id,13)→jr y t:=fun t e=>by rw[e];exact⟨rfl,.inr (.inl rfl)⟩
 refine⟨rfl,h.own (S':={ S with queue:=kl S.queue ps }) rfl rfl rfl rfl rfl (vq:=.slice pt S.queue.length ct) (hb.stp hs (by rw[h.os];simp)) ⟨?_,hr.l.stp hs (by simp),hr.m.stp hs (by simp)⟩ (hs.mono ht),hs⟩
 show Row w' o _ _ 2 _ (kl S.queue ps).length (qg (kl S.queue ps));rw[gi];exact hr'
def Stt.upto (S:Stt)(g:Nat→Nat)(k:Nat):Stt:={ S with queue:=at1 g S.queue,txs:=(S.txs.take k).map (Tx.at' g)++S.txs.drop k }
theorem su (S:Stt)(g:Nat→Nat)(k:Nat):(S.upto g k).txs.length=S.txs.length:=by
 unfold Stt.upto;simp only[List.length_append,List.length_map,List.length_take,List.length_drop];omega
theorem upto_t (S:Stt)(g:Nat→Nat){k:Nat}(hk:k<S.txs.length):(S.upto g k).t k=S.t k:=by
 have e:((S.txs.take k).map (Tx.at' g)).length=k:=by rw[List.length_map,List.length_take];omega
 unfold Stt.t Stt.upto;simp only[List.getD_eq_getElem?_getD];rw[List.getElem?_append_right (by omega),e,Nat.sub_self,List.getElem?_drop,Nat.add_zero]
theorem qlj (S:Stt)(g:Nat→Nat):S.upto g 0={ S with queue:=at1 g S.queue }:=by unfold Stt.upto;simp
theorem upto_all (S:Stt)(g:Nat→Nat):S.upto g S.txs.length=S.at' g:=by unfold Stt.upto Stt.at';rw[List.take_length,List.drop_length,List.append_nil]
theorem qmn (S:Stt)(g:Nat→Nat){k:Nat}(hk:k<S.txs.length):S.upto g (k+1)=(S.upto g k).tx k ((S.t k).at' g):=by
 have e:((S.txs.take k).map (Tx.at' g)).length=k:=by rw[List.length_map,List.length_take];omega
 have e2:S.txs.drop k=S.t k::S.txs.drop (k+1):=by rw[List.drop_eq_getElem_cons hk];congr 1;have:=Stt.t_get hk;rw[List.getElem?_eq_getElem hk]at this;injection this
 unfold Stt.tx Stt.upto;congr 1;simp only;rw[e2,List.set_append_right _ _ (by omega),e,Nat.sub_self,List.set_cons_zero,List.take_add_one,Stt.t_get hk,List.map_append,List.append_assoc]
 rfl
theorem at_split (x:Tx)(g:Nat→Nat)(l:List Nat):((x.putL (x.log.roots.map g)).putT ((x.took.map (·.1)).map g++l))=x.at' g:=by
 unfold Tx.putL Tx.putT Tx.at';simp only[qk3,tn]
def txR (ts:List Tx)(k:Nat):List Nat:=(ts.drop k).flatMap Tx.places
theorem txR_succ {S:Stt}{k:Nat}(hk:k<S.txs.length):txR S.txs k=(S.t k).log.roots++((S.t k).took.map (·.1)++txR S.txs (k+1)):=by
 have e2:S.txs.drop k=S.t k::S.txs.drop (k+1):=by rw[List.drop_eq_getElem_cons hk];congr 1;have:=Stt.t_get hk;rw[List.getElem?_eq_getElem hk]at this;injection this
 unfold txR;rw[e2,List.flatMap_cons];unfold Tx.places;rw[List.append_assoc]
end
theorem qej (o:Own):∀ n:Nat,∃ N,∀ b,b<n→(o b).1<N
 | 0=>⟨0,fun b h=>by omega⟩
 | n+1=>by
  obtain⟨N,hN⟩:=qej o n;refine⟨N+(o n).1+1,fun b hb=>?_⟩
  by_cases h:b=n
  ·rw[h];omega
  ·have:=hN b (by omega);omega
theorem Stp.shrink {T U:Tag→Prop}{o o':Own}{w w':World}(h:Stp U o o' w w')(ht:∀ b,b<w.heap.size→U (o b)→T (o b)):Stp T o o' w w':=
 ⟨h.os,h.tape,h.output,h.size,h.tags,fun b hb hn=>h.block b hb fun hu=>hn (ht b hb hu)⟩
theorem Row.takeN {w:World}{o:Own}{t:Tag}{e:TypeId}{g n cap:Nat}{xs:List Value}(h:Row w o t e 1 (.slice (some ⟨g,0,none⟩) n cap) n xs){k:Nat}(hk:k≤n):Row w o t e 1 (.slice (some ⟨g,0,none⟩) k cap) k (xs.take k):=by
 refine⟨?_,h.tag⟩;have h1:=h.own.1;rcases h.own.2 with ⟨h',_⟩|⟨g',cap',cur,h',hb,hg,hn,hc,hs,ht⟩
 ·simp at h'
 ·simp only[Value.slice.injEq,Option.some.injEq,Addr.mk.injEq,and_true,true_and]at h'
  obtain⟨rfl,rfl⟩:=h';refine⟨by rw[List.length_take];omega,.inr ⟨g,cap,cur,rfl,hb,hg,by omega,hc,hs,?_⟩⟩
  rw[←ht,List.take_take];congr 1;omega
theorem Row.plS {w:World}{o:Own}{t:Tag}{e:TypeId}{g cap:Nat}{l:List Nat}(h:Row w o t e 1 (.slice (some ⟨g,0,none⟩) l.length cap) l.length (l.map nv)):PlS w g 0 l cap:=by
 rcases h.shape with ⟨h',_⟩|⟨g',cap',h',hn,_⟩
 ·simp at h'
 ·simp only[Value.slice.injEq,Option.some.injEq,Addr.mk.injEq,and_true,true_and]at h'
  obtain⟨rfl,rfl⟩:=h';exact⟨hn,h.blt,fun j x hj=>by rw[Nat.zero_add];exact h.cells j _ (by rw[List.getElem?_map,hj];rfl)⟩
section
variable {w w' : World} {o o' : Own} {y : SLay} {S : Stt} {i : Nat}
theorem StIn.cyIn (h:StIn w o y S):CyIn w o y.l y.cy S.ph [] []:=⟨⟨_,_,h.cy,Row.nil _ _ _ _ _,Row.nil _ _ _ _ _⟩,h.oy⟩
theorem qfr (h:StIn w o y S)(hk:S.ok)(h0:S.ph≠0)(a:Option Addr)(n c:Nat) :
  Calls Tryz.prog 18 #[ptr y.sb,.slice a n c] w fun e w'=>e=.returned (.tuple #[.slice none 0 0,.bool false])∧w=w':=by
 have HL:=Lib.hid (ul h.cyIn hk.ph.1);rw[decide_eq_true h0]at HL;obtain⟨vq,vl,vm,jb,_⟩:=h.blk;unfold qk at jb;have c':=jb.cell;clear h hk h0;go_enter Tryz.func18,Tryz.ntmps18;go_wp2_with fail;refine HL.out.mono ?_
 rintro e w1⟨rfl,rfl⟩
 go_wp2_with fail;go_ret2;exact⟨rfl,rfl⟩
def yp (H:Hp)(r:Nat):Bool:=decide (r=0)||(lk H.cur r).isSome
theorem qgf (h:StIn w o y S)(hk:S.ok)(h0:S.ph=0){v:Value}{ps:List Nat}{ta:Tag}(hv:Row w o ta 3 1 v ps.length (ps.map nv))(hp:ps.length≤100000)(hb:ps.all (yp S.H)=false) :
  Calls Tryz.prog 18 #[ptr y.sb,v] w fun e w'=>e=.returned (.tuple #[.slice none 0 0,.bool false])∧Below w.heap.size w w':=by
 have HL:=Lib.hid (ul h.cyIn hk.ph.1);rw[show decide (S.ph≠0)=false from by rw[h0];rfl]at HL
 have HH:=Lib.hid (fun (w2:World)(hb:Below w.heap.size w w2)(p:Nat)=>qb5 (h.below hb) hk p)
 obtain⟨vq,vl,vm,jb,_⟩:=h.blk;unfold qk at jb;obtain⟨pv,cv,rfl⟩:=hv.slc;have HV:=Lib.hid hv;have HJ:=Lib.hid jb;have HB:=Lib.hid hb;obtain⟨H,hHe⟩:∃ H,H=S.H:=⟨_,rfl⟩;rw[←hHe]at HH HB;obtain⟨n,hn⟩:∃ n,n=ps.length:=⟨_,rfl⟩;rw[←hn]at HV hp ⊢;have HN:=Lib.hid hn;have c':=jb.cell;generalize S.next=N at *;generalize S.holder=N1 at *;generalize S.version=N2 at *;clear h hk h0 hv hb jb hHe hn;go_enter Tryz.func18,Tryz.ntmps18;go_wp2_with fail;refine HL.out.mono ?_
 rintro e w1 ⟨rfl,rfl⟩
 go_wp2_with fail;clear c';go_loopw [25](fun ix wr=>∃ k:Nat,ix=.int .i64 k∧k≤n∧(ps.take k).all (yp H)=true∧Below w.heap.size w wr)(fun ix _=>n-(intOf ix).toNat)
 case atStart=>exact⟨0,rfl,Nat.zero_le _,rfl,qc w⟩
 case round =>
  obtain⟨k,rfl,hkn,hall,hb⟩:=hrel;obtain⟨wo,rfl⟩:∃ wo:World,wo=wr:=⟨_,rfl⟩;have c':=(HJ.out.below hb HJ.out.lt).cell;by_cases hlt:k<n
  ·have hkI:(k:Int)<(n:Int):=by omega
   obtain⟨x,hx⟩:∃ x,ps[k]?=some x:=⟨_,List.getElem?_eq_getElem (by rw[←HN.out];exact hlt)⟩
   obtain⟨g,cap,e,hcell⟩:∃ g cap,Value.slice pv n cv=.slice (some ⟨g,0,none⟩) n cap∧wo.cell? ⟨g,k,none⟩=some (.int .i64 x):=by
    rcases (HV.out.below hb).form with ⟨_,h0⟩|⟨g,cap,e,_⟩
    ·omega
    ·injection e with e1 _ e3
     subst e1 e3;exact⟨g,cv,rfl,(HV.out.below hb).cells k _ (by rw[List.getElem?_map,hx];rfl)⟩
   injection e with e1 _ e3;subst e1 e3;have htk:(ps.take (k+1)).all (yp H)=((ps.take k).all (yp H)&&yp H x):=by rw[List.take_add_one,hx,List.all_append];simp
   have HTK:=Lib.hid htk;have HC:=Lib.hid (HH.out wo hb x);have HAL:=Lib.hid hall;obtain⟨hw1,hw2⟩:=qr k (by omega)
   by_cases hx0:x=0
   ·subst hx0
    have hxb:(((0:Nat):Int) != 0)=false:=rfl;clear hx hall htk;go_wp2_with fail;go_roundw
    case rel=>exact⟨k+1,by simp,by omega,by rw[HTK.out,HAL.out];rfl,hb⟩
    case measure=>simp[intOf];omega
   ·have hxb:((x:Int) != 0)=true:=by rw[bne_iff_ne];omega
    cases hs:(lk H.cur x).isSome with
    | true =>
     rw[hs]at HC;have hro:yp H x=true:=by unfold yp;rw[hs,Bool.or_true]
     have HRO:=Lib.hid hro;clear hx hall htk hs hx0 hro;go_wp2_with fail;refine HC.out.mono ?_
     rintro e w3 ⟨rfl,hb3⟩
     go_wp2_with fail;go_roundw
     case rel=>exact⟨k+1,by simp,by omega,by rw[HTK.out,HAL.out,HRO.out];rfl,qd hb hb3⟩
     case measure=>simp[intOf];omega
    | false =>
     rw[hs]at HC;clear hx hall htk hs hx0;go_wp2_with fail;refine HC.out.mono ?_
     rintro e w3 ⟨rfl,hb3⟩
     go_wp2_with fail;go_ret2;exact⟨rfl,qd hb hb3⟩
  ·exfalso
   have h1:k=n:=by omega
   rw[h1,HN.out,List.take_length]at hall;have:=HB.out;rw[hall]at this
   cases this
end
section
variable {w w' : World} {o o' : Own} {y : SLay} {S : Stt} {i : Nat}
theorem cyc_ok (hk:S.ok):S.cyc.ok∧S.cyc.next+S.cyc.H.final.length+S.rdy.length≤S.cyc.H.serial:=by
 obtain⟨h1,h2⟩:=si hk;rw[qk1]at h1 h2;simp only at h1 h2;exact⟨⟨h1.H,h1.n2,h1.lv,h1.t1,h1.t8,h1.lg,h1.st,h1.ve,h1.ho,h1.sc,h1.so,h1.qu,h1.nx,h1.cm,h1.se,h1.ph⟩,h2⟩
theorem fin_le (hk:S.ok):S.H.finals.2.length≤1099511627776:=by
 have h1:=hk.H.fl;have h2:=hk.H.ok.ser;unfold Hp.finals;split
 ·simp
 ·rw[kp]
  have:=kq S.H S.H.final;omega
theorem qe7 (hk:S.ok):S.H.drop.2.1.length≤1099511627776:=by
 have h1:=hk.H.wl;have h2:=hk.H.ok.ser;unfold Hp.drop;split
 ·simp
 ·have h3:=fj S.H.settled.weak S.H.settled
  have h4:S.H.settled.weak.length≤S.H.weak.length:=by show (S.H.stay S.H.weak).length≤_;have:=kq S.H S.H.weak;omega
  simp only;omega
theorem scyc_any (h:StIn w o y S)(hk:S.ok) :
  Calls Tryz.prog 67 #[ptr y.cy] w fun e w'=>e=.returned (.bool S.stepR.2)∧∃ o' vr vs,StCy w' o' y S.cyc vr vs S.rdy S.lst∧Stp (qh y) o o' w w':=by
 rw[qb0];simp only;have ho:=h.open';by_cases h0:S.ph=0
 ·have e:yu S.H S.ph [] []=(S.H,0,[],[],false):=by unfold yu;rw[if_pos h0]
  have hc:=h.cyIn;rw[h0]at hc;refine (qjh hc).mono ?_
  rintro e' w'⟨rfl,hb⟩
  unfold Stt.cyc Stt.rdy Stt.lst;rw[e];refine⟨rfl,o,.slice none 0 0,.slice none 0 0,?_,Stp.of_below hb⟩;have e2:({ S with H:=S.H,ph:=0 }:Stt)=S:=by obtain⟨⟩:=S;simp only at h0;subst h0;rfl
  simp only;rw[e2];exact ho.below hb
 ·refine (cstep_go h.hp hk.H h.cyIn (by have:=hk.ph.1;omega) (by simp) (fin_le hk) (by simp) (qe7 hk)).mono ?_
  rintro e' w'⟨rfl,o',hH,hC,hs⟩
  obtain⟨vr,vs,hb,h1,h2⟩:=hC.blk;exact⟨rfl,o',vr,vs,ho.cyc hH hb h1 h2 hs,hs.mono fun _ h=>h.1⟩
end
theorem ft (y:SLay)(j:Nat)(h:j=11∨j=13∨j=14∨j=15):jr y (y.l.id,j):=⟨rfl,h⟩
theorem qge (S:Stt)(p:Nat):(S.ready1 p).next≤S.next+1:=by
 unfold Stt.ready1;split
 ·exact Nat.le_succ _
 ·exact Nat.le_refl _
theorem qaw:∀ (l:List Nat)(S:Stt),(S.readyL l).next≤S.next+l.length
 | [],S=>Nat.le_refl _
 | p::l,S=>by
  have h1:=qge S p;have h2:=qaw l (S.ready1 p);show ((S.ready1 p).readyL l).next≤_;rw[List.length_cons];omega
theorem qa8:∀ (l:List Nat)(S:Stt),(S.readyL l).lost=S.lost
 | [],_=>rfl
 | p::l,S=>by
  show ((S.ready1 p).readyL l).lost=_;rw[qa8 l (S.ready1 p)];unfold Stt.ready1;split<;>rfl
section
variable {w w' : World} {o o' : Own} {y : SLay} {S : Stt} {i : Nat}
theorem qmq (h0:StIn w o y S) (hk:S.ok) (hl:S.lost.length≤1099511627776) :
  Calls Tryz.prog 19 #[ptr y.sb] w fun e w'=>e=.returned (.bool S.stepR.2)∧Lft y S.stepR.1 o w w':=by
 obtain⟨iI,hi,hsI,hyI,hzI⟩:=zg;obtain⟨iU,hiU,hsU,hyU,hzU⟩:=ux;have hu64:=Tryz.underlying25;have huI:=Tryz.underlying99;have HY:=Lib.hid (scyc_any h0 hk);obtain⟨hk1,hk2⟩:=cyc_ok hk
 have hls:S.lst.length≤1099511627776:=by
  unfold Stt.lst yu;split
  ·simp
  ·split
   ·simp
   ·split
    ·simp
    ·simp only[List.nil_append];exact qe7 hk
 have hfin:=qb0 S;obtain⟨T,hT⟩:∃ T,T=S.cyc:=⟨_,rfl⟩;obtain⟨rd,hrd⟩:∃ rd,rd=S.rdy:=⟨_,rfl⟩;obtain⟨ls,hlse⟩:∃ ls,ls=S.lst:=⟨_,rfl⟩;obtain⟨b,hb⟩:∃ b,b=S.stepR.2:=⟨_,rfl⟩;have hTl:T.lost=S.lost:=by rw[hT];rfl
 rw[←hT,←hrd,←hlse]at HY hfin;rw[←hb]at HY ⊢;rw[←hT]at hk1 hk2;rw[←hrd]at hk2;rw[←hlse]at hls;have hS1:S.stepR.1={ T.readyL rd with lost:=S.lost++ls }:=by rw[hfin]
 rw[hS1,←hTl];rw[←hTl]at hl;obtain⟨vq,vl,vm,jb,_⟩:=h0.blk;unfold qk at jb;have c:=jb.cell;have HK1:=Lib.hid hk1;have HK2:=Lib.hid hk2;have HLs:=Lib.hid hls;have HTl:=Lib.hid hl;generalize S.next=N at *;generalize S.holder=N1 at *;generalize S.version=N2 at *;clear h0 hk hl hT hrd hlse hb hTl hfin hk1 hk2 hls hS1 jb;go_enter Tryz.func19,Tryz.ntmps19;go_wp2_with fail;refine HY.out.mono ?_
 rintro e w1 ⟨rfl,o1,vr,vs,hC1,hs1⟩
 have HRd:=Lib.hid (qmx hC1.cb hC1.oy hC1.cr);obtain⟨vq1,vl1,vm1,j1,_⟩:=hC1.blk;unfold qk at j1;clear c;have c:=j1.cell;have HC1:=Lib.hid hC1;have HS1:=Lib.hid hs1;clear hC1 hs1 HY;go_wp2_with fail;refine HRd.out.mono ?_
 rintro e w2 ⟨rfl,hr2,hb2,hs2⟩
 obtain⟨pr,cr,rfl⟩:=hr2.slc;have hC2:StCy w2 o1 y T (.slice none 0 0) vs [] ls:=HC1.out.cyb hb2 (Row.nil _ _ _ _ _) (HC1.out.cl.stp hs2 (by simp)) hs2
 have hs2':Stp (qh y) o o1 w w2:=HS1.out.trans (hs2.mono (by rintro _ rfl;exact rfl))
 obtain⟨n,hn⟩:∃ n,n=rd.length:=⟨_,rfl⟩;rw[←hn]at hr2 ⊢;have HN:=Lib.hid hn;have hn40:n≤1099511627776:=by rw[hn];have:=HK2.out;have:=HK1.out.H.ok.ser;omega
 have HN40:=Lib.hid hn40;have HX:=Lib.hid (And.intro hC2 (And.intro hr2 hs2'));clear hC2 hr2 hs2' hs2 hb2 HC1 HS1 HRd c j1 hn hn40;go_wp2_with fail;go_loopw [24] (fun ix wr=>∃ (k:Nat) (oo:Own),ix=.int .i64 k∧k≤n∧StCy wr oo y (T.readyL (rd.take k)) (.slice none 0 0) vs [] ls∧Row wr oo (y.l.id,8) 3 1 (.slice pr n cr) n (rd.map nv)∧Stp (qh y) o oo w wr) (fun ix _=>n-(intOf ix).toNat)
 case atStart=>exact⟨0,o1,rfl,Nat.zero_le _,HX.out⟩
 case round =>
  clear HX;obtain⟨k,oo,rfl,hkn,hC,hr,hs⟩:=hrel;obtain⟨wo,rfl⟩:∃ wo:World,wo=wr:=⟨_,rfl⟩;have hok:=fg (rd.take k) HK1.out (by rw[List.length_take];have:=HK2.out;omega)
  by_cases hlt:k<n
  ·have hkI:(k:Int)<(n:Int):=by omega
   obtain⟨x,hx⟩:∃ x,rd[k]?=some x:=⟨_,List.getElem?_eq_getElem (by rw[←HN.out];exact hlt)⟩
   have htk:=ji hx;have hst:T.readyL (rd.take (k+1))=(T.readyL (rd.take k)).ready1 x:=by rw[htk];exact qgr _ _ _
   have hnx:(T.readyL (rd.take k)).next+1≤1099511627776∧(T.readyL (rd.take k)).came.length+1≤1099511627776:=by
    have h1:=qaw (rd.take k) T;have h2:=hok.1.cm;have h3:=HK2.out;have h4:=HK1.out.H.ok.ser;rw[List.length_take]at h1;have h5:=HN.out;omega
   obtain⟨U,hU⟩:∃ U,U=T.readyL (rd.take k):=⟨_,rfl⟩;rw[←hU]at hC hok hst hnx;have HST:=Lib.hid hst
   obtain⟨g,cap,e,hcell⟩:∃ g cap,Value.slice pr n cr=.slice (some ⟨g,0,none⟩) n cap∧wo.cell? ⟨g,k,none⟩=some (.int .i64 x):=by
    rcases hr.form with ⟨_,h0⟩|⟨g,cap,e,_⟩
    ·omega
    ·injection e with e1 _ e3
     subst e1 e3;exact⟨g,cr,rfl,hr.cells k _ (by rw[List.getElem?_map,hx];rfl)⟩
   injection e with e1 _ e3;subst e1 e3;have HSh:=Lib.hid (at_shape hC.hp hok.1.H.ok x);have HK:=Lib.hid hok.1;obtain⟨vq,vl,vm,jb,hrw⟩:=hC.blk;unfold qk at jb;have hrq:=hrw.q;obtain⟨pq,cq,rfl⟩:=hrq.slc;have HJ:=Lib.hid jb;have HW:=Lib.hid hrw;have HC:=Lib.hid hC;have HR:=Lib.hid hr;have HS:=Lib.hid hs;have HNX:=Lib.hid hnx;have HKN:=Lib.hid (qr k (by have:=HN40.out;omega))
   have c:=jb.cell
   cases hf:U.H.freedAt x with
   | true =>
    rw[hf]at HSh;have hr1:U.ready1 x=U:=by unfold Stt.ready1;rw[if_pos (.inl hf)]
    rw[hr1]at HST;clear hx htk hst hnx hC hok hU hr1 hf jb hrw hr hs hrq;go_wp2_with fail;refine HSh.out.mono ?_
    rintro e w3 ⟨sp,sd,wk,fn,er,rfl,hb3⟩
    obtain⟨hw1,hw2⟩:=HKN.out;clear c;go_wp2_with fail;go_roundw
    case rel=>exact⟨k+1,oo,by simp,hlt,by rw[HST.out];exact HC.out.below (qa hb3 _),HR.out.below (qa hb3 _),HS.out.trans (Stp.of_below (qa hb3 _))⟩
    case measure=>simp[intOf];omega
   | false =>
    rw[hf]at HSh;by_cases h100:100≤U.queue.length
    ·have hr1:U.ready1 x=U:=by unfold Stt.ready1;rw[if_pos (.inr h100)]
     rw[hr1]at HST;have hqI:(100:Int)≤(U.queue.length:Int):=by omega
     obtain⟨hw1,hw2⟩:=HKN.out;clear hx htk hst hnx hC hok hU hr1 hf hrw hr hs hrq;go_wp2_with (first|(go_at_call 69;refine HSh.out.mono ?_;rintro e w3 ⟨sp,sd,wk,fn,er,rfl,hb3⟩;have c3:=((jb.below hb3 jb.lt).alloc (.cells #[.int .i64 sp,.int .i64 sd,.bool wk,.bool fn] 93)).cell)|fail)
     go_roundw
     case rel=>exact⟨k+1,oo,by simp,hlt,by rw[HST.out];exact HC.out.below (qa hb3 _),HR.out.below (qa hb3 _),HS.out.trans (Stp.of_below (qa hb3 _))⟩
     case measure=>simp[intOf];omega
    ·have hr1:U.ready1 x={ U with queue:=U.queue++[(x,U.next)],came:=U.came++[(U.H.serR x).1],next:=U.next+1 }:=by unfold Stt.ready1;rw[if_neg (by rw[hf];simp[h100])]
     rw[hr1]at HST;have hqI:¬((100:Int)≤(U.queue.length:Int)):=by omega
     have hql:U.queue.length<100:=by omega
     have HSe:=Lib.hid (fun (w2:World) (hb:Below wo.heap.size wo w2)=>qmy (HC.out.below hb).hp HK.out.H.ok x)
     obtain⟨ser,hser⟩:∃ ser,ser=(U.H.serR x).1:=⟨_,rfl⟩;obtain⟨se2,hse2⟩:∃ se2,se2=(U.H.serR x).2:=⟨_,rfl⟩;rw[←hser]at HST HSe;rw[←hse2]at HSe;clear hx htk hst hnx hC hok hU hr1 hf hrw hr hs hrq h100 hser hse2
     go_wp2_with (first
      | (go_at_call 69;refine HSh.out.mono ?_;rintro e w3 ⟨sp,sd,wk,fn,er,rfl,hb3⟩;have c3:=((jb.below hb3 jb.lt).alloc (.cells #[.int .i64 sp,.int .i64 sd,.bool wk,.bool fn] 93)).cell;have hb3':=qa hb3 (.cells #[.int .i64 sp,.int .i64 sd,.bool wk,.bool fn] 93))
      | (go_at_call 70;refine (HSe.out _ hb3').mono ?_;rintro e w4 ⟨rfl,hb4⟩;have hbw:=qd hb3' hb4;have c4:=(jb.below hbw jb.lt).cell)
      | fail)
     have C4:=HC.out.below hbw;have R4:=Lib.hid (HR.out.below hbw);have S4:=Lib.hid (HS.out.trans (Stp.of_below hbw));obtain⟨vq4,vl4,vm4,j4,hrw4⟩:=C4.blk;have hoS:=C4.os;have rq4:=hrw4.q;have rm4:=hrw4.m;obtain⟨pq4,cq4,rfl⟩:=rq4.slc;obtain⟨pm4,cm4,rfl⟩:=rm4.slc;have J4:=Lib.hid j4;unfold qk at j4;clear c c3 c4 hb3 hb3' hb4 hbw HSh HSe HC HR HS HJ HW jb;have c4:=j4.cell;have hne13:∀ b,o b=(y.l.id,13)→True:=fun _ _=>trivial
     have jn:=Blk.new w4.drew #[.int .i64 x,.int .i64 U.next] 117;have rn:Row (w4.drew.alloc (.cells #[.int .i64 x,.int .i64 U.next] 117)) oo (y.l.id,13) 117 2 (.slice pq4 U.queue.length cq4) U.queue.length (qg U.queue):=rq4.below (qa (qe (qc w4)) _);have hml:U.queue.length+1≤maxLen∧(U.queue.length+1)*16≤140737488355328:=by simp only[maxLen];omega
     obtain⟨hml,hmb⟩:=hml;have h1c:∀ u ∈ [Value.int .i64 (x:Int),.int .i64 (U.next:Int)],u.oneCell'=true:=by intro u hu;simp at hu;rcases hu with rfl|rfl<;>rfl
     have HF10:=Lib.hid (fun (w5:World) (o5:Own) (p5:Option Addr) (c5:Nat) (hown:Row w5 o5 (y.l.id,13) 117 2 (.slice p5 (U.queue.length+1) c5) (U.queue.length+1) (qg U.queue++[.int .i64 x,.int .i64 U.next])) (hst:Stp (fun u=>u=(y.l.id,13)) oo o5 (w4.drew.alloc (.cells #[.int .i64 x,.int .i64 U.next] 117)) w5) =>
      show StCy (w5.setCell ⟨y.sb,4,none⟩ (.slice p5 (U.queue.length+1) c5)) o5 y { U with queue:=U.queue++[(x,U.next)] } (.slice none 0 0) vs [] ls∧Row (w5.setCell ⟨y.sb,4,none⟩ (.slice p5 (U.queue.length+1) c5)) o5 (y.l.id,8) 3 1 (.slice (some ⟨g,0,none⟩) n cr) n (rd.map nv)∧Stp (qh y) o o5 w (w5.setCell ⟨y.sb,4,none⟩ (.slice p5 (U.queue.length+1) c5)) from by
       have kb:Stp (fun u=>u=(y.l.id,13)) oo oo w4 (w4.drew.alloc (.cells #[.int .i64 x,.int .i64 U.next] 117)):=Stp.of_below (qa (qe (qc w4)) _)
       have k1:=kb.trans hst;have o5s:o5 y.sb=(y.l.id,11):=(k1.tags _ J4.out.lt).trans hoS;have k2:Stp (fun u=>u=(y.l.id,11)) o5 o5 w5 (w5.setCell ⟨y.sb,4,none⟩ (.slice p5 (U.queue.length+1) c5)):=(Stp.refl _ o5 w5).setCell (by show o5 y.sb=_;exact o5s) _
       have k3:Stp (jr y) oo o5 w4 (w5.setCell ⟨y.sb,4,none⟩ (.slice p5 (U.queue.length+1) c5)):=(k1.mono (by rintro _ rfl;exact ft y 13 (by omega))).trans (k2.mono (by rintro _ rfl;exact ft y 11 (by omega)))
       have hq5:Row (w5.setCell ⟨y.sb,4,none⟩ (.slice p5 (U.queue.length+1) c5)) o5 (y.l.id,13) 117 2 (.slice p5 (U.queue.length+1) c5) (U.queue++[(x,U.next)]).length (qg (U.queue++[(x,U.next)])):=
        (hown.stp k2 (by simp)).ite (by simp) (by rw[mn];rfl)
       refine⟨C4.own (S':={ U with queue:=U.queue++[(x,U.next)] }) rfl rfl rfl rfl rfl ((J4.out.stp k1 (by rw[hoS];simp)).set 4 _) ⟨hq5,(hrw4.l.stp k1 (by simp)).stp k2 (by simp),(hrw4.m.stp k1 (by simp)).stp k2 (by simp)⟩ k3,R4.out.stp k3 (fc (by omega) (by omega) (by omega) (by omega)),S4.out.trans (k3.mono fun _ h=>h.1)⟩)
     have HJk:=Lib.hid (fun (w5:World) (o5:Own) (hst:Stp (fun u=>u=(y.l.id,13)) oo o5 (w4.drew.alloc (.cells #[.int .i64 x,.int .i64 U.next] 117)) w5)=>(j4.below (qa (qe (qc w4)) (.cells #[.int .i64 x,.int .i64 U.next] 117)) j4.lt).stp hst (by rw[hoS];simp))
     have s4:=j4.lt;clear C4 hrw4 rq4 rm4;go_region_law ((refine zi _ (by rfl) _ _ _ (by rfl) 117 iU _ 2 16 huI hiU hzU hsU hyU (by rfl) (by decide) oo (y.l.id,13) _ _ _ (by rfl) rn ⟨w4.heap.size,0,none⟩ 1 1 [.int .i64 x,.int .i64 U.next] (by rfl) (by rfl) (yq jn) h1c hml hmb ?_;intro v' w5 hown hst;obtain⟨p5,c5,rfl⟩:=hown.slc;have jX:=HJk.out _ _ hst;have cX:=jX.cell;have zX:=jX.free;have sX:=jX.lt))
     all_goals
      obtain⟨W6,o6,hW6,C6,R6,S6⟩:∃ (W6:World) (o6:Own),W6=w5.setCell ⟨y.sb,4,none⟩ (.slice p5 (U.queue.length+1) c5)∧StCy W6 o6 y { U with queue:=U.queue++[(x,U.next)] } (.slice none 0 0) vs [] ls ∧
       Row W6 o6 (y.l.id,8) 3 1 (.slice (some ⟨g,0,none⟩) n cr) n (rd.map nv)∧Stp (qh y) o o6 w W6:=⟨_,_,rfl,HF10.out w5 _ p5 c5 hown hst⟩
      rw[←hW6];clear hW6 hown hst jX cX zX sX HF10 HJk J4 R4 S4;have o6s:=C6.os;obtain⟨vq6,vl6,vm6,j6,hrw6⟩:=C6.blk;have rm6:=hrw6.m;obtain⟨pm6,cm6,rfl⟩:=rm6.slc;have j6':Blk W6 y.sb #[ptr y.l.h,ptr y.cy,ptr y.ck,y.vth,vq6,.int .i64 U.next,.int .i64 U.holder,.int .i64 U.version,vl6,.slice pm6 U.came.length cm6] 101:=j6;have rm6':Row W6 o6 (y.l.id,15) 3 1 (.slice pm6 U.came.length cm6) U.came.length (U.came.map nv):=rm6
      have HF11:=Lib.hid (fun (w7:World) (o7:Own) (p7:Option Addr) (c7:Nat) (hown7:Row w7 o7 (y.l.id,15) 3 1 (.slice p7 (U.came.length+1) c7) (U.came.length+1) (U.came.map nv++[.int .i64 ser])) (hst7:Stp (fun t=>t=(y.l.id,15)) o6 o7 (W6.alloc (.cells #[.int .i64 ser] 3)) w7) =>
       show Blk w7 y.sb #[ptr y.l.h,ptr y.cy,ptr y.ck,y.vth,vq6,.int .i64 U.next,.int .i64 U.holder,.int .i64 U.version,vl6,.slice pm6 U.came.length cm6] 101 ∧
        StCy ((w7.setCell ⟨y.sb,9,none⟩ (.slice p7 (U.came.length+1) c7)).setCell ⟨y.sb,5,none⟩ (.int .i64 ((U.next:Int)+1))) o7 y { U with queue:=U.queue++[(x,U.next)],came:=U.came++[ser],next:=U.next+1 } (.slice none 0 0) vs [] ls ∧
        Row ((w7.setCell ⟨y.sb,9,none⟩ (.slice p7 (U.came.length+1) c7)).setCell ⟨y.sb,5,none⟩ (.int .i64 ((U.next:Int)+1))) o7 (y.l.id,8) 3 1 (.slice (some ⟨g,0,none⟩) n cr) n (rd.map nv) ∧
        Stp (qh y) o o7 w ((w7.setCell ⟨y.sb,9,none⟩ (.slice p7 (U.came.length+1) c7)).setCell ⟨y.sb,5,none⟩ (.int .i64 ((U.next:Int)+1))) from by
       have k1:Stp (fun t=>t=(y.l.id,15)) o6 o7 W6 w7:=(Stp.of_below (qa (qc W6) _)).trans hst7
       have j7:=j6'.stp k1 (by rw[o6s];simp)
       have o7s:o7 y.sb=(y.l.id,11):=(k1.tags _ j6'.lt).trans o6s;have k2:Stp (fun t=>t=(y.l.id,11)) o7 o7 w7 ((w7.setCell ⟨y.sb,9,none⟩ (.slice p7 (U.came.length+1) c7)).setCell ⟨y.sb,5,none⟩ (.int .i64 ((U.next:Int)+1))):=((Stp.refl _ o7 w7).setCell (by show o7 y.sb=_;exact o7s) _).setCell (by show o7 y.sb=_;exact o7s) _
       have k3:Stp (jr y) o6 o7 W6 ((w7.setCell ⟨y.sb,9,none⟩ (.slice p7 (U.came.length+1) c7)).setCell ⟨y.sb,5,none⟩ (.int .i64 ((U.next:Int)+1))):=(k1.mono (by rintro _ rfl;exact ft y 15 (by omega))).trans (k2.mono (by rintro _ rfl;exact ft y 11 (by omega)))
       have j9:=(j7.set 9 (.slice p7 (U.came.length+1) c7)).set 5 (.int .i64 ((U.next:Int)+1));refine⟨j7,C6.own (S':={ U with queue:=U.queue++[(x,U.next)],came:=U.came++[ser],next:=U.next+1 }) rfl rfl rfl rfl rfl (vq:=vq6) (vl:=vl6) (vm:=.slice p7 (U.came.length+1) c7) j9 ⟨(hrw6.q.stp k1 (by simp)).stp k2 (by simp),(hrw6.l.stp k1 (by simp)).stp k2 (by simp),(hown7.stp k2 (by simp)).ite (by simp) (by simp[nv])⟩ k3,R6.stp k3 (fc (by omega) (by omega) (by omega) (by omega)),S6.trans (k3.mono fun _ h=>h.1)⟩)
      have hml2:U.came.length+1≤maxLen∧(U.came.length+1)*8≤140737488355328:=by have:=HNX.out;simp only[maxLen];omega
      obtain⟨hml2,hmb2⟩:=hml2;obtain⟨hw1,hw2⟩:=HKN.out;obtain⟨hw3,hw4⟩:=qr U.next (by have:=HNX.out;omega)
      have RM6:=Lib.hid rm6';have c6:=j6'.cell;have l6:=j6'.lt;clear C6 R6 S6 hrw6 rm6 rm6' j6 j6' o6s
      go_wp2_with (first
       | (at_builtin;refine qf _ rfl _ _ _ rfl 3 iI _ 1 8 hu64 hi hzI hsI hyI rfl (by decide) o6 (y.l.id,15) _ _ _ rfl (RM6.out.below (qa (qc W6) _)) ⟨W6.heap.size,0,none⟩ 1 1 [.int .i64 ser] rfl rfl (qx (Blk.new W6 _ _)) zo hml2 hmb2 ?_;intro v7 w7 hown7 hst7;obtain⟨p7,c7,rfl⟩:=hown7.slc;obtain⟨j7,hfin⟩:=HF11.out _ _ _ _ hown7 hst7;have c7:=j7.cell;have z7:=j7.free;have l7:=j7.lt)
       | fail)
      go_roundw
      case rel=>exact⟨k+1,_,by simp,hlt,by rw[HST.out];exact hfin.1,hfin.2.1,hfin.2.2⟩
      case measure=>clear hw1 hw2 hw3 hw4 hml2 hmb2 hqI HNX;simp[intOf];omega
  ·obtain rfl:k=n:=by omega
   rw[HN.out,List.take_length]at hC;have hlo:(T.readyL rd).lost=T.lost:=qa8 rd T;obtain⟨TT,hTT⟩:∃ TT,TT=T.readyL rd:=⟨_,rfl⟩;rw[←hTT]at hC hlo;have HPost:=Lib.hid (show ∀ (w':World) (o':Own),StIn w' o' y { TT with lost:=TT.lost++ls }→Stp (qh y) o o' w w'→Lft y { T.readyL rd with lost:=T.lost++ls } o w w' from fun w' o' h1 h2=>⟨o',by rw[←hlo,←hTT];rw[hTT]at h1 ⊢;exact h1,h2⟩)
   rw[←hlo]at HTl;obtain⟨vq,vl,vm,jb,hrw⟩:=hC.blk;have hrl:=hrw.l;obtain⟨pl,cl,rfl⟩:=hrl.slc;have hcl:=hC.cl;obtain⟨pvs,cvs,rfl⟩:=hcl.slc;have jb':Blk wo y.sb #[ptr y.l.h,ptr y.cy,ptr y.ck,y.vth,vq,.int .i64 TT.next,.int .i64 TT.holder,.int .i64 TT.version,.slice pl TT.lost.length cl,vm] 101:=jb;have HLo:=Lib.hid (clost_is (hC.below (qe (qc wo))).cb hC.oy (hC.below (qe (qc wo))).cl);have oS:=hC.os
   have HX:=Lib.hid (fun (w3:World) (hr:Row w3 oo (y.l.id,9) 3 1 (.slice pvs ls.length cvs) ls.length (ls.map nv)) (hb:Blk w3 y.cy #[ptr y.l.h,phF y.cy TT.ph,.slice none 0 0,.slice none 0 0] 201) (h3:Stp (fun t=>t=(y.l.id,7)) oo oo wo.drew w3) =>
    show StCy w3 oo y TT (.slice none 0 0) (.slice none 0 0) [] []∧Blk w3 y.sb #[ptr y.l.h,ptr y.cy,ptr y.ck,y.vth,vq,.int .i64 TT.next,.int .i64 TT.holder,.int .i64 TT.version,.slice pl TT.lost.length cl,vm] 101∧Row w3 oo (y.l.id,14) 3 1 (.slice pl TT.lost.length cl) TT.lost.length (TT.lost.map nv) from by
     have h3':Stp (fun t=>t=(y.l.id,7)) oo oo wo w3:=(Stp.of_below (qe (qc wo))).trans h3
     exact⟨hC.cyb hb (Row.nil _ _ _ _ _) (Row.nil _ _ _ _ _) h3',jb'.stp h3' (by rw[oS];simp),hrl.stp h3' (by simp)⟩)
   have HY:=Lib.hid (fun (w3 w5:World) (o5:Own) (v5:Value) (h3:Stp (fun t=>t=(y.l.id,7)) oo oo wo.drew w3) (C3:StCy w3 oo y TT (.slice none 0 0) (.slice none 0 0) [] []) (j3:Blk w3 y.sb #[ptr y.l.h,ptr y.cy,ptr y.ck,y.vth,vq,.int .i64 TT.next,.int .i64 TT.holder,.int .i64 TT.version,.slice pl TT.lost.length cl,vm] 101)
     (hown:Row w5 o5 (y.l.id,14) 3 1 v5 (TT.lost.length+ls.length) (TT.lost.map nv++ls.map nv)) (hst:Stp (fun t=>t=(y.l.id,14)) oo o5 w3 w5) =>
    show Blk w5 y.sb #[ptr y.l.h,ptr y.cy,ptr y.ck,y.vth,vq,.int .i64 TT.next,.int .i64 TT.holder,.int .i64 TT.version,.slice pl TT.lost.length cl,vm] 101∧Lft y { T.readyL rd with lost:=T.lost++ls } o w (w5.setCell ⟨y.sb,8,none⟩ v5) from by
     have j5:=j3.stp hst (by rw[oS];simp)
     have o5s:o5 y.sb=(y.l.id,11):=(hst.tags _ j3.lt).trans oS;have k2:Stp (fun t=>t=(y.l.id,11)) o5 o5 w5 (w5.setCell ⟨y.sb,8,none⟩ v5):=(Stp.refl _ o5 w5).setCell (by show o5 y.sb=_;exact o5s) _
     have k3:Stp (jr y) oo o5 w3 (w5.setCell ⟨y.sb,8,none⟩ v5):=(hst.mono (by rintro _ rfl;exact ft y 14 (by omega))).trans (k2.mono (by rintro _ rfl;exact ft y 11 (by omega)))
     obtain⟨vq',vl',vm',jx,hrx⟩:=C3.blk
     have exq:vq'=vq∧vm'=vm:=by
      have a1:=jx.cell (i:=4);have a2:=jx.cell (i:=9);rw[j3.cell]at a1 a2;simp[qk]at a1 a2;exact⟨a1.symm,a2.symm⟩
     obtain⟨rfl,rfl⟩:=exq;have C5:=C3.own (S':={ TT with lost:=TT.lost++ls }) rfl rfl rfl rfl rfl (vq:=vq') (vl:=v5) (vm:=vm') (j5.set 8 v5) ⟨(hrx.q.stp hst (by simp)).stp k2 (by simp),(hown.stp k2 (by simp)).ite (by simp) (by simp),(hrx.m.stp hst (by simp)).stp k2 (by simp)⟩ k3
     have h3':Stp (qh y) oo oo wo w3:=((Stp.of_below (qe (qc wo))).trans h3).mono (by rintro _ rfl;rfl)
     exact⟨j5,HPost.out _ _ C5.close ((hs.trans h3').trans (k3.mono fun _ h=>h.1))⟩)
   have hml:TT.lost.length+ls.length≤maxLen∧(TT.lost.length+ls.length)*8≤140737488355328:=by have:=HTl.out;have:=HLs.out;simp only[maxLen];omega
   obtain⟨hml,hmb⟩:=hml;have hhs:w.heap.size≤wo.heap.size:=hs.size;have cb:=jb'.cell;have lb:=jb'.lt;clear hTT hlo hrw hrl hcl jb jb' hC hs hr hok HPost hlt hkn hhs;go_upto_region 14 with fail
   go_region_law (first
    | (refine uk _ (by rfl) _ _ _ (by rfl) 3 iI _ 1 8 hu64 hi hzI hsI hyI (by rfl) (by decide) oo (y.l.id,14) _ TT.lost.length (TT.lost.map nv) (by rfl) rL oo (y.l.id,9) _ ls.length (ls.map nv) (by rfl) rS (bc _) hml hmb ?_;intro v5 w5 hown hst;obtain⟨p5,c5,rfl⟩:=hown.slc;obtain⟨j5,hfin⟩:=HY.out _ _ _ _ h3 C3 j3 hown hst;have c5':=j5.cell;have z5:=j5.free;have l5:=j5.lt)
    | (go_simp;go_wp2_with ((go_at_call 71;refine HLo.out.mono ?_;rintro e w3 ⟨rfl,rS,b3,h3⟩;obtain⟨C3,j3,rL⟩:=HX.out w3 rS b3 h3;have c3:=j3.cell;have l3:=j3.lt))))
   all_goals
    go_wp2_with fail;go_ret;exact⟨rfl,hfin⟩
end
end Go.Proofs.YteehgedabdchcaaGreat
