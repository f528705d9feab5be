import Derived.Test.YteehgedabdchcaaGreatKar
import Derived.Test.YteehgedabdchcaaGreatKbp
set_option linter.all false
set_option maxRecDepth 1000000
set_option maxHeartbeats 16000000
open Go renaming World->Aa,Calls->Ab,Value->Ac
open Go.RowKit renaming Below->Ae
open Go.Value renaming int->I,pointer->Ag,slice->Ah,tuple->Aj,agg->Ak
open Go.IntKind renaming i64->Z
open Go.Ending renaming returned->O
namespace Go.Proofs.YteehgedabdchcaaGreat
section
open Go.RowKit Hp Go.Maps
attribute [local go_sem ↓] Go.wp_at_zero Go.wp_at_succ
structure Nd where
 Bt:Nat
 AN:B3
 Cn:Bool
 AL:List Int
 nums:List Int
def Nd.of (P:List Nat)(x:Ob):Nd:=⟨x.Ax,x.AN,x.Cn,x.AL.map (gg P),x.nums⟩
def Nd.none:Nd:=⟨0,⟨0,0,false,false⟩,false,[],[]⟩
def Sa (e:Nd×Ac×Ac):List Ac:=[I Z e.1.Bt,I Z e.1.AN.p,I Z e.1.AN.d,.bool e.1.AN.Az,.bool e.1.AN.final,.bool e.1.Cn,e.2.1,e.2.2]
def dt (es:List (Nd×Ac×Ac)):List Ac:=es.flatMap Sa
theorem YD (es:List (Nd×Ac×Ac))(e:Nd×Ac×Ac):dt (es++[e])=dt es++Sa e:=by unfold dt;simp
structure Cw (W:Aa)(o:Own)(v:Ac)(l:List Nd):Prop where
 es:∃ es:List (Nd×Ac×Ac),es.map (·.1)=l/\Row W o (54,0) 120 8 v l.length (dt es) /\
  ∀ e ∈ es,Row W o (51,0) 3 1 e.2.1 e.1.AL.length (e.1.AL.map zv)/\Row W o (52,0) 3 1 e.2.2 e.1.nums.length (e.1.nums.map zv)
def xw (G:Gf)(P l:List Nat):List Nd:=l.map fun p=>match G p with|some x=>Nd.of P x|none=>Nd.none
def DF (o o2:Own)(n:Nat):Own:=fun b=>if b<n then o b else o2 b
theorem UK {o o2:Own}{n b:Nat}(h:b<n):DF o o2 n b=o b:=if_pos h
theorem Row.DF {W:Aa}{o2:Own}{n:Nat}{t:Tag}{e:TypeId}{size k:Nat}{v:Ac}{xs:List Ac}(h:Row W o2 t e size v k xs)(hO:Old n o2)(ht:t≠(0,0))(o:Own):Row W (DF o o2 n) t e size v k xs:=
 ⟨h.own,fun b hb=>by
  have h1:=h.tag b hb;show (if b<n then o b else o2 b)=t
  rw[if_neg fun hl=>ht (by rw[<-h1];exact hO b hl)];exact h1⟩
theorem Stp.DF {T:Tag->Prop} {o:Own} {w W:Aa} (o2:Own) (h:Ae w.heap.size w W):Stp T o (DF o o2 w.heap.size) w W:=
 let s:=Stp.of_below (T:=T) (o:=o) h
 ⟨s.os,s.tape,s.output,s.size,fun _ hb=>UK hb,s.block⟩
theorem VN {w:Aa}{o:Own}{t:Tag}{e:TypeId}{size n:Nat}{v:Ac}{xs:List Ac}(h:Row w o t e size v n xs):v.oneCell'=true:=by obtain⟨_,_,rfl⟩:=h.AY;rfl
theorem Gp {a b c:Int}{d e f:Bool}{v1 v2:Ac}(h1:v1.oneCell'=true)(h2:v2.oneCell'=true):∀ u ∈ [Value.int .i64 a,I Z b,I Z c,.bool d,.bool e,.bool f,v1,v2],u.oneCell'=true:=by
 intro u hu;simp at hu;rcases hu with rfl|rfl|rfl|rfl|rfl|rfl|rfl|rfl<;>first|rfl|assumption
theorem Cw.Ao {T:Tag->Prop}{W W':Aa}{o o':Own}{v:Ac}{l:List Nd}(h:Cw W o v l)(k:Stp T o o' W W')(h4:¬T (54,0))(h1:¬T (51,0))(h2:¬T (52,0)):Cw W' o' v l:=by
 obtain⟨es,he,hr,hi⟩:=h;exact⟨es,he,hr.Ao k h4,fun e h=>⟨(hi e h).1.Ao k h1,(hi e h).2.Ao k h2⟩⟩
theorem Xt:∃ i,Tryz.prog.info? 120=some i/\i.size=8/\i.bytes=88/\i.zero=some (Ak #[I Z 0,I Z 0,I Z 0,.bool false,.bool false,.bool false,Ah none 0 0,Ah none 0 0]):=info_parts (by kernel_rfl)
section
variable {w w' : Aa} {a wd L : Nat} {f : Nat -> Nat} {G : Gf} {K : List Nat}
theorem YY (h:Nb w a wd L f G) (hG:Nu G K) {v:Ac} {roots:List Nat} {o:Own} {t:Tag} (hv:Row w o t 3 1 v roots.length (roots.map nv)) (hr:FV G roots) (hn:roots.length<=1000000) :
  Ab Tryz.prog 114 #[Ag (some ⟨a,0,none⟩),v] w fun e w'=>∃ v1 v2 oo,e=O (Aj #[v1,v2,I Z 0])/\Cw w' oo v1 (xw G (fc G K.length roots) (fc G K.length roots)) /\
   Row w' oo (55,0) 3 1 v2 roots.length (Eb (fc G K.length roots) roots)/\Ae w.heap.size w w'/\Old w.heap.size oo:=by
 obtain⟨iN,hiN,hsN,hyN,hzN⟩:=Xt;obtain⟨iI,hi,hsI,hyI,hzI⟩:=zi;have huN:=Tryz.underlying28;have hu64:=Tryz.underlying25;have HFr:=Qa (GI h hG hv hr hn);obtain⟨R,hR⟩:∃ R,R=fc G K.length roots:=⟨_,rfl⟩;rw[<-hR]at HFr ⊢;obtain⟨pv,cv,rfl⟩:=hv.AY;have HV:=Qa hv;have HGI:=Qa h;have HGO:=Qa hG;have HRo:=Qa hr;obtain⟨n,hnn⟩:∃ n,n=roots.length:=⟨_,rfl⟩;rw[<-hnn]at HV HFr hn ⊢;have HN:=Qa hnn;have HNm:=Qa hn;clear hR h hG hv hr hnn hn;go_enter Tryz.func114,Tryz.ntmps114;go_wp2_with (first
  | (go_at_call 175;refine HFr.out.mono ?_;rintro e w1 ⟨c,mb,oc,rfl,hC,hI,hb1,hO1⟩;obtain⟨vp,jc,hp⟩:=hC.AU;obtain⟨pp,cp,rfl⟩:=hp.AY;have cc:=jc.cell)
  | fail)
 obtain⟨m,hm⟩:∃ m,m=R.length:=⟨_,rfl⟩;rw[<-hm];have hK:=HGO.out.num;have hmK:m<=100000:=by rw[hm];exact Qo (hI.le HGO.out.keys) hK
 have HC:=Qa hC;have HI:=Qa hI;have HB1:=Qa hb1;have HP:=Qa hp;have HM:=Qa hm;clear hC hI hb1 hO1 hp hm jc cc hK HFr;go_loopw [9,31] (fun vn ix wr=>∃ (k:Nat) (oo:Own),ix=I Z k/\k<=m/\Cw wr oo vn (xw G R (R.take k))/\Ae w1.heap.size w1 wr/\Old w1.heap.size oo) (fun _ ix _=>m-(intOf ix).toNat)
 case atStart=>exact⟨0,fun _=>(0,0),rfl,Nat.zero_le _,⟨[],rfl,Row.nil _ _ _ _ _,fun e he=>by cases he⟩,qc w1,fun _ _=>rfl⟩
 case round =>
  obtain⟨k,oo,rfl,hkm,hN,hb,hO⟩:=hrel;obtain⟨es,hes,hrow,hin⟩:=hN;have hel:(xw G R (R.take k)).length=k:=by unfold xw;rw[Qg,Qp,<-HM.out];omega
  rw[hel]at hrow;by_cases hlt:k<m
  ·have hkI:(k:Int)<(m:Int):=by omega
   have HW:=Qa (qw k (by omega))
   obtain⟨x,hx⟩:∃ x,R[k]?=some x:=⟨_,Qb (by rw[<-HM.out];exact hlt)⟩
   obtain⟨g,e,hcell,hcap⟩:∃ g,pp=some ⟨g,0,none⟩/\wr.cell? ⟨g,k,none⟩=some (I Z x)/\m<=cp:=by
    have hp2:=HP.out.below hb;rcases hp2.form with ⟨_,h0⟩|⟨g,cap,e,hcap,_⟩
    ·rw[<-HM.out]at h0;omega
    ·injection e with e1 _ e3
     subst e1 e3;exact⟨g,rfl,hp2.cells k _ (by rw[Qj,hx];rfl),by rw[HM.out];exact hcap⟩
   subst e;obtain⟨ob,hob⟩:=Option.isSome_iff_exists.1 (HI.out.QZ x (Qe hx));have HNode:=Qa (JF (HGI.out.below (qd HB1.out hb)) hob (HC.out.below hb));have hst:xw G R (R.take (k+1))=xw G R (R.take k)++[Nd.of R ob]:=by
    unfold xw;rw[List.take_add_one,hx,Qw];simp[hob]
   obtain⟨pn,cn,rfl⟩:=hrow.AY;have HX:=Qa (fun (w3 W5:Aa) (o3:Own) (v1 v2:Ac) (r1:Row w3 o3 (51,0) 3 1 v1 ob.AL.length (Eb R ob.AL)) (r2:Row w3 o3 (52,0) 3 1 v2 ob.nums.length (ob.nums.map zv)) (hb3:Ae wr.heap.size wr w3) (hO3:Old wr.heap.size o3) (hW5:Ae w3.heap.size w3 W5) =>
    show Row W5 (ext (DF oo o3 wr.heap.size) w3.heap.size (53,0)) (54,0) 120 8 (.slice pn k cn) k (dt es) /\
     ∀ (w8:Aa) (o8:Own) (v8:Ac),Row w8 o8 (54,0) 120 8 v8 (k+1) (dt es++Sa (Nd.of R ob,v1,v2))->Stp (fun t=>t=(54,0)) (ext (DF oo o3 wr.heap.size) w3.heap.size (53,0)) o8 W5 w8 ->
      Cw w8 o8 v8 (xw G R (R.take (k+1)))/\Ae w1.heap.size w1 w8/\Old w1.heap.size o8 from by
     have s1:Stp (fun _=>False) oo (DF oo o3 wr.heap.size) wr w3:=Stp.DF o3 hb3
     have s2:Stp (fun _=>False) (DF oo o3 wr.heap.size) (ext (DF oo o3 wr.heap.size) w3.heap.size (53,0)) w3 W5:=(Stp.of_below hW5).ext _ _ (Qk _)
     have s3:=s1.trans s2;refine⟨hrow.Ao s3 id,fun w8 o8 v8 hr8 hs8=>⟨⟨es++[(Nd.of R ob,v1,v2)],?_,?_,?_⟩,?_,?_⟩⟩
     ·rw[Qw,hes,hst];rfl
     ·rw[YD]
      exact hr8.ite (by rw[hst,Qd,hel];rfl) rfl
     ·intro e he
      rcases Qs.1 he with he|he
      ·obtain⟨q1,q2⟩:=hin e he
       exact⟨(q1.Ao s3 id).Ao hs8 (by simp),(q2.Ao s3 id).Ao hs8 (by simp)⟩
      ·simp only[Za]at he
       subst he;have q1:=((r1.DF hO3 (by simp) oo).Ao s2 id).Ao hs8 (by simp)
       have q2:=((r2.DF hO3 (by simp) oo).Ao s2 id).Ao hs8 (by simp)
       refine⟨q1.ite (by show _=(ob.AL.map (gg R)).length;rw[Qg]) (by show _=(ob.AL.map (gg R)).map zv;rw[List.map_map];rfl),q2⟩
     ·have kk:Stp (fun t=>t=(54,0)) oo o8 w1 w8:=((Stp.of_below hb).trans (s3.mono fun _ h=>h.elim)).trans hs8
      exact kk.below fun b hb2 e=>by rw[hO b hb2]at e;simp at e
     ·intro b hb2
      have hlw:b<wr.heap.size:=Qn hb2 hb.size;have hlw3:b<w3.heap.size:=Qn hlw hb3.size;rw[hs8.tags b (Qn hlw3 hW5.size),qj hlw3,UK hlw];exact hO b hb2)
   have hml:k+1<=maxLen:=by simp only[maxLen];omega
   have hmb:(k+1)*88<=140737488355328:=by omega
   obtain⟨⟨sp,sd,wk,fn⟩,fr,se,Bt,AL,nums⟩:=ob;simp only at HNode HX;clear hx hob hst hrow hin hes hel hb hO;go_wp2_with (first
    | (go_at_call 176;refine HNode.out.mono ?_;rintro e w3 ⟨v1,v2,o3,rfl,r1,r2,hb3,hO3⟩;obtain⟨p1,c1,rfl⟩:=r1.AY;obtain⟨p2,c2,rfl⟩:=r2.AY;have HOn:=Qa (Gp (a:=Bt) (b:=sp) (c:=sd) (d:=wk) (e:=fn) (f:=fr) (VN r1) (VN r2));have HXX:=Qa (HX.out w3 _ o3 _ _ r1 r2 hb3 hO3 (qa (qa (qc w3) (.cells #[I Z Bt,I Z sp,I Z sd,.bool wk,.bool fn,.bool fr,.slice p1 AL.length c1,.slice p2 nums.length c2] 120)) (.cells #[I Z Bt,I Z sp,I Z sd,.bool wk,.bool fn,.bool fr,.slice p1 AL.length c1,.slice p2 nums.length c2] 120)));have HJn:=Qa (Am.Aq (w3.alloc (.cells #[I Z Bt,I Z sp,I Z sd,.bool wk,.bool fn,.bool fr,.slice p1 AL.length c1,.slice p2 nums.length c2] 120)) _ #[I Z Bt,I Z sp,I Z sd,.bool wk,.bool fn,.bool fr,.slice p1 AL.length c1,.slice p2 nums.length c2] 120 (w3.heap.size+1) (by simp) rfl))
    | (at_builtin;refine qf _ rfl _ _ _ rfl 120 iN _ 8 88 huN hiN hzN hsN hyN rfl (by decide) (ext (DF oo o3 wr.heap.size) w3.heap.size (53,0)) (54,0) _ _ _ rfl HXX.out.1 ⟨w3.heap.size+1,0,none⟩ 1 1 [I Z Bt,I Z sp,I Z sd,.bool wk,.bool fn,.bool fr,.slice p1 AL.length c1,.slice p2 nums.length c2] rfl rfl (pw HJn.out) HOn.out hml hmb ?_;intro v8 w8 hown hst;have HF:=Qa (HXX.out.2 w8 _ v8 hown hst);clear hown hst)
    | fail)
   obtain⟨hw1,hw2⟩:=HW.out;go_wp2_with fail;go_roundw
   case rel=>exact⟨k+1,_,by simp,hlt,HF.out⟩
   case measure=>clear hw1 hw2 hml hmb;simp[intOf];omega
  ·obtain rfl:k=m:=by omega
   have hcan:R.take k=R:=by rw[HM.out,List.take_length]
   rw[hcan]at hes hel;obtain⟨pn,cn,rfl⟩:=hrow.AY;have HNd:=Qa (show Cw wr oo (.slice pn k cn) (xw G R R) from ⟨es,hes,by rw[hel];exact hrow,hin⟩)
   have HBO:=Qa (And.intro hb hO);clear hes hel hrow hin hcan hb hO hlt hkm;go_wp2_with fail;go_loopw [14,52] (fun vs ix wx=>∃ (j:Nat) (o4:Own),ix=I Z j/\j<=n/\Row wx o4 (55,0) 3 1 vs j (Eb R (roots.take j))/\Cw wx o4 (.slice pn k cn) (xw G R R)/\Ae w1.heap.size w1 wx/\Old w1.heap.size o4) (fun _ ix _=>n-(intOf ix).toNat)
   case atStart=>exact⟨0,oo,rfl,Nat.zero_le _,Row.nil _ _ _ _ _,HNd.out,HBO.out⟩
   case round =>
    clear HNd HBO;obtain⟨j,o4,rfl,hjn,hr4,hN4,hb4,hO4⟩:=hrel;by_cases hlt:j<n
    ·have hjI:(j:Int)<(n:Int):=by omega
     have hnn:=HNm.out;have HW:=Qa (qw j (by omega))
     obtain⟨x,hx⟩:∃ x,roots[j]?=some x:=⟨_,Qb (by rw[<-HN.out];exact hlt)⟩
     obtain⟨g,e,hcell,hcap⟩:∃ g,pv=some ⟨g,0,none⟩/\wr.cell? ⟨g,j,none⟩=some (I Z x)/\n<=cv:=by
      have hv2:=(HV.out.below HB1.out).below hb4;rcases hv2.form with ⟨_,h0⟩|⟨g,cap,e,hcap,_⟩
      ·omega
      ·injection e with e1 _ e3
       subst e1 e3;exact⟨g,rfl,hv2.cells j _ (by rw[Qj,hx];rfl),hcap⟩
     subst e;have hxb:=HGO.out.bd HRo.out (Qe hx);have HIx:=Qa (VT (HC.out.below hb4) x (by omega))
     have HTk:=Qa (show Eb R (roots.take (j+1))=Eb R (roots.take j)++[I Z (gg R x)] from by rw[List.take_add_one,hx];unfold Eb;rw[Qw];rfl)
     obtain⟨ps,cs,rfl⟩:=hr4.AY;have hml:j+1<=maxLen:=by simp only[maxLen];omega
     have hmb:(j+1)*8<=140737488355328:=by omega
     have HRn:=Qa (hr4.below (qa (qc wr) (.cells #[I Z (gg R x)] 3)));have HX:=Qa (fun (w8:Aa) (o8:Own) (v8:Ac) (hr8:Row w8 o8 (55,0) 3 1 v8 (j+1) (Eb R (roots.take j)++[I Z (gg R x)])) (hs8:Stp (fun t=>t=(55,0)) o4 o8 (wr.alloc (.cells #[I Z (gg R x)] 3)) w8) =>
      show Row w8 o8 (55,0) 3 1 v8 (j+1) (Eb R (roots.take (j+1)))/\Cw w8 o8 (.slice pn k cn) (xw G R R)/\Ae w1.heap.size w1 w8/\Old w1.heap.size o8 from by
       have s:Stp (fun t=>t=(55,0)) o4 o8 wr w8:=(Stp.of_below (qa (qc wr) _)).trans hs8
       have kk:Stp (fun t=>t=(55,0)) o4 o8 w1 w8:=(Stp.of_below hb4).trans s
       refine⟨by rw[HTk.out];exact hr8,hN4.Ao s (by simp) (by simp) (by simp),kk.below fun b hb2 e=>?_,fun b hb2=>(kk.tags b hb2).trans (hO4 b hb2)⟩
       rw[hO4 b hb2]at e;simp at e)
     clear hr4 hN4 hb4 hO4 hx hxb hnn;go_wp2_with (first
      | (go_at_call 177;refine HIx.out.mono ?_;rintro e w3 ⟨rfl,rfl⟩)
      | (at_builtin;refine qf _ rfl _ _ _ rfl 3 iI _ 1 8 hu64 hi hzI hsI hyI rfl (by decide) o4 (55,0) _ _ _ rfl HRn.out ⟨wr.heap.size,0,none⟩ 1 1 [I Z (gg R x)] rfl rfl (qx (Am.new wr _ _)) zw hml hmb ?_;intro v8 w8 hown hst;have HF:=Qa (HX.out w8 _ v8 hown hst);clear hown hst)
      | fail)
     obtain⟨hw1,hw2⟩:=HW.out;go_wp2_with fail;go_roundw
     case rel=>exact⟨j+1,_,by simp,hlt,HF.out⟩
     case measure=>clear hw1 hw2 hml hmb;simp[intOf];omega
    ·obtain rfl:j=n:=by omega
     rw[HN.out,List.take_length,<-HN.out]at hr4;have HX:=Qa (And.intro hN4 (And.intro hr4 (And.intro (qd HB1.out hb4) (show Old w.heap.size o4 from fun b hb=>hO4 b (Qn hb HB1.out.size)))))
     clear hN4 hr4 hb4 hO4;go_wp2_with fail;go_ret3;exact⟨_,_,o4,rfl,HX.out⟩
end
end
section
open Go.RowKit Hp
attribute [local go_sem ↓] Go.wp_at_zero Go.wp_at_succ
structure DJ (w:Aa)(g off:Nat)(l:List Nat)(c:Nat):Prop where
 cap:l.length<=c
 lt:g<w.heap.size
 at':∀ (j x:Nat),l[j]?=some x->w.cell? ⟨g,off+j,none⟩=some (nv x)
theorem DJ.Ao {T:Tag->Prop}{w w':Aa}{o o':Own}{g off c:Nat}{l:List Nat}(h:DJ w g off l c)(hs:Stp T o o' w w')(ht:¬T (o g)):DJ w' g off l c:=
 ⟨h.cap,Qn h.lt hs.size,fun j x hj=>by
  have:=hs.block g h.lt ht;rw[<-h.at' j x hj];simp only[World.cell?,this]⟩
theorem DJ.below {w w':Aa} {g off c:Nat} {l:List Nat} (h:DJ w g off l c) (hb:Ae w.heap.size w w'):DJ w' g off l c:=h.Ao (o:=Et) (o':=Et) (T:=fun _=>False) (Stp.of_below hb) fun h=>h
theorem DJ.drop {w:Aa}{g off c:Nat}{l:List Nat}(h:DJ w g off l c){n:Nat}(hn:n<=l.length) :
  ∃ off',(if c=n then some (⟨g,off,none⟩:Addr) else some ⟨g,off+n,none⟩)=some ⟨g,off',none⟩/\DJ w g off' (l.drop n) (c-n):=by
 by_cases hc:c=n
 ·refine⟨off,if_pos hc,by rw[List.length_drop];have:=h.cap;omega,h.lt,fun j x hj=>?_⟩
  have h1:=h.cap;rw[List.drop_eq_nil_of_le (by omega)]at hj
  simp at hj
 ·refine⟨off+n,if_neg hc,by rw[List.length_drop];have:=h.cap;omega,h.lt,fun j x hj=>?_⟩
  rw[List.getElem?_drop]at hj;rw[Nat.add_assoc];exact h.at' (n+j) x hj
theorem DJ.take {w:Aa}{g off c:Nat}{l:List Nat}(h:DJ w g off l c){n:Nat}(hn:n<=l.length):DJ w g off (l.take n) c:=
 ⟨by rw[Qp];have:=h.cap;omega,h.lt,fun j x hj=>by
  rw[List.getElem?_take]at hj;split at hj
  ·exact h.at' j x hj
  ·cases hj⟩
theorem DJ.Py {T:Tag->Prop}{w:Aa}{o:Own}{g off c:Nat}{l:List Nat}(h:DJ w g off l c)(ht:¬T (o g)):Mp T w o (Ah (some ⟨g,off,none⟩) l.length c) l:=
 ⟨_,_,rfl,fun j x hj=>⟨g,off,rfl,h.lt,ht,h.at' j x hj⟩⟩
section
variable {w w' : Aa} {o o' : Own} {y : A3} {S : Al} {i : Nat}
theorem Ap.ER (h:Ap w o y S){H':Hp}{n:Nat}{T:Tag->Prop}(hH:Bu w' o' y.l H')(hc:Am w' y.cy (VW y (Ff y.cy n)) 201)(hs:Stp T o o' w w')(hn:∀ j,10<=j->¬T (y.l.id,j)):Ap w' o' y { S with H:=H',ph:=n }:=by
 obtain⟨vq,vl,vm,hb,hr⟩:=h.AU;have hr':=hr.Ao hs fun j _ _=>hn j (by omega)
 exact⟨⟨vq,vl,vm,hb.Ao hs (by rw[h.os];exact hn _ (by omega)),hr'.1,hr'.2,hr'.3⟩,hc,hH,h.ck.Ao hs (by rw[h.oc];exact hn _ (by omega)),h.Ea.Ao hs (hn _ (by omega)),fun i x hx=>(h.Aw i x hx).Ao hs fun j _=>hn _ (by omega),(hs.tags _ h.ck.lt).trans h.oc,(hs.tags _ h.lt).trans h.os,(hs.tags _ h.cy.lt).trans h.oy⟩
def Tx.Eg (x:Tx)(ps:List Nat):Tx:={ x with log:=x.log.put ps }
def Tx.Ge (x:Tx)(ps:List Nat):Tx:={ x with AX:=ki x.AX ps }
theorem YJ (h:Ap w o y S)(hk:(S.t i).log.fit)(hi:i<S.Aw.length){g off c:Nat}{ps:List Nat}(hv:DJ w g off ps c)(hg:(o g).1≠y.l.id)(hn:ps.length=(S.t i).log.roots.length) :
  Ab Tryz.prog 66 #[ptr (y.lb i),Ah (some ⟨g,off,none⟩) ps.length c] w fun e w'=>e=O (.bool true)/\∃ o',Ap w' o' y (S.tx i ((S.t i).Eg ps))/\Stp (bg y.l.id (17+8*i)) o o' w w':=by
 have hx:=h.Aw i _ (Al.AV hi);obtain⟨vr,vk,vh,vu,hl⟩:=hx.log;obtain⟨vt,hb,hr⟩:=hx.AU;refine (qia hl hk (hv.Py fun ht=>hg ht.1) hn).mono ?_
 rintro e w' ⟨rfl,o',hl',hs⟩
 have ht:∀ t,bg y.l.id (17+8*i) t->yx y i t:=fun t ⟨h1,h2,h3⟩=>⟨h1,by omega,by omega⟩
 have n0:¬bg y.l.id (17+8*i) (y.l.id,16+8*i):=fun hh=>by have:=hh.2.1;simp only at this;omega
 have n6:¬bg y.l.id (17+8*i) (y.l.id,22+8*i):=fun hh=>by have:=hh.2.2;simp only at this;omega
 exact⟨rfl,o',h.tx (x':=(S.t i).Eg ps) ⟨⟨vt,hb.Ao hs (by rw[hx.ob];exact n0),hr.Ao hs n6⟩,⟨vr,vk,vh,vu,hl'⟩,(hs.tags _ hb.lt).trans hx.ob⟩ (hs.mono ht),hs⟩
theorem Xa (h:Ap w o y S)(hi:i<S.Aw.length){g off c:Nat}{ps:List Nat}(hv:DJ w g off ps c)(hg:(o g).1≠y.l.id)(hn:(S.t i).AX.length<=ps.length)(hq:(S.t i).AX.length<=1099511627776) :
  ∃ off2 pt ct,Am w (y.xb i) (zg i (S.t i) (y.lb i) (.slice pt (S.t i).AX.length ct)) 107/\DJ w g off2 (ps.drop (S.t i).AX.length) (c-(S.t i).AX.length) /\
  Ab Tryz.prog 64 #[.slice pt (S.t i).AX.length ct,Ah (some ⟨g,off,none⟩) ps.length c] w fun e w'=>e=O (Ah (some ⟨g,off2,none⟩) (ps.length-(S.t i).AX.length) (c-(S.t i).AX.length)) /\
   Ap w' o y (S.tx i ((S.t i).Ge ps))/\Stp (fun t=>t=(y.l.id,22+8*i)) o o w w':=by
 have hx:=h.Aw i _ (Al.AV hi);obtain⟨vr,vk,vh,vu,hl⟩:=hx.log;obtain⟨vt,hb,hr⟩:=hx.AU;obtain⟨pt,ct,rfl⟩:=hr.AY;obtain⟨off2,hoff,hd⟩:=hv.drop hn;refine⟨off2,pt,ct,hb,hd,(SV hr hn hq hv.cap hv.at' hv.lt fun e=>hg (by rw[e])).mono ?_⟩
 rintro e w' ⟨rfl,hr',hs⟩
 rw[hoff];have ht:∀ t,t=(y.l.id,22+8*i)->yx y i t:=fun t e=>by rw[e];exact⟨rfl,by simp only;omega,by simp only;omega⟩
 refine⟨rfl,h.tx (x':=(S.t i).Ge ps) ⟨⟨_,hb.Ao hs (by rw[hx.ob];simp),?_⟩,⟨vr,vk,vh,vu,hl.Ao hs fun j hj=>by simp;omega⟩,(hs.tags _ hb.lt).trans hx.ob⟩ (hs.mono ht),hs⟩
 show Row w' o _ _ 2 _ (ki (S.t i).AX ps).length (qg (ki (S.t i).AX ps));rw[df];exact hr'
theorem X0 (h:Ap w o y S){g off c:Nat}{ps:List Nat}(hv:DJ w g off ps c)(hg:(o g).1≠y.l.id)(hn:S.queue.length<=ps.length)(hq:S.queue.length<=1099511627776) :
  ∃ off2 pt ct vl vm,Am w y.sb (qk y S (.slice pt S.queue.length ct) vl vm) 101/\DJ w g off2 (ps.drop S.queue.length) (c-S.queue.length) /\
  Ab Tryz.prog 64 #[.slice pt S.queue.length ct,Ah (some ⟨g,off,none⟩) ps.length c] w fun e w'=>e=O (Ah (some ⟨g,off2,none⟩) (ps.length-S.queue.length) (c-S.queue.length)) /\
   Ap w' o y { S with queue:=ki S.queue ps }/\Stp (fun t=>t=(y.l.id,13)) o o w w':=by
 obtain⟨vq,vl,vm,hb,hr⟩:=h.AU;have hrq:=hr.q;obtain⟨pt,ct,rfl⟩:=hrq.AY;obtain⟨off2,hoff,hd⟩:=hv.drop hn;refine⟨off2,pt,ct,vl,vm,hb,hd,(SV hrq hn hq hv.cap hv.at' hv.lt fun e=>hg (by rw[e])).mono ?_⟩
 rintro e w' ⟨rfl,hr',hs⟩
 rw[hoff];have ht:∀ t,t=(y.l.id,13)->jr y t:=fun t e=>by rw[e];exact⟨rfl,.inr (.inl rfl)⟩
 refine⟨rfl,h.own (S':={ S with queue:=ki S.queue ps }) rfl rfl rfl rfl rfl (vq:=.slice pt S.queue.length ct) (hb.Ao hs (by rw[h.os];simp)) ⟨?_,hr.l.Ao hs (by simp),hr.m.Ao hs (by simp)⟩ (hs.mono ht),hs⟩
 show Row w' o _ _ 2 _ (ki S.queue ps).length (qg (ki S.queue ps));rw[df];exact hr'
def Al.upto (S:Al)(g:Nat->Nat)(k:Nat):Al:={ S with queue:=Ew g S.queue,Aw:=(S.Aw.take k).map (Tx.at' g)++S.Aw.drop k }
theorem tt (S:Al)(g:Nat->Nat)(k:Nat):(S.upto g k).Aw.length=S.Aw.length:=by
 unfold Al.upto;simp only[Qd,Qg,Qp,List.length_drop];omega
theorem J9 (S:Al)(g:Nat->Nat){k:Nat}(hk:k<S.Aw.length):(S.upto g k).t k=S.t k:=by
 have e:((S.Aw.take k).map (Tx.at' g)).length=k:=by rw[Qg,Qp];omega
 unfold Al.t Al.upto;simp only[Qi];rw[Ql (by omega),e,Nat.sub_self,List.getElem?_drop,Nat.add_zero]
theorem Yy (S:Al)(g:Nat->Nat):S.upto g 0={ S with queue:=Ew g S.queue }:=by unfold Al.upto;simp
theorem GU (S:Al)(g:Nat->Nat):S.upto g S.Aw.length=S.at' g:=by unfold Al.upto Al.at';rw[List.take_length,List.drop_length,List.append_nil]
theorem Xw (S:Al)(g:Nat->Nat){k:Nat}(hk:k<S.Aw.length):S.upto g (k+1)=(S.upto g k).tx k ((S.t k).at' g):=by
 have e:((S.Aw.take k).map (Tx.at' g)).length=k:=by rw[Qg,Qp];omega
 have e2:S.Aw.drop k=S.t k::S.Aw.drop (k+1):=by rw[List.drop_eq_getElem_cons hk];congr 1;have:=Al.AV hk;rw[Qb hk]at this;injection this
 unfold Al.tx Al.upto;congr 1;simp only;rw[e2,List.set_append_right _ _ (by omega),e,Nat.sub_self,List.set_cons_zero,List.take_add_one,Al.AV hk,Qw,List.append_assoc]
 rfl
theorem JZ (x:Tx)(g:Nat->Nat)(l:List Nat):((x.Eg (x.log.roots.map g)).Ge ((x.AX.map (·.1)).map g++l))=x.at' g:=by
 unfold Tx.Eg Tx.Ge Tx.at';simp only[TL,tm]
def E4 (ts:List Tx)(k:Nat):List Nat:=(ts.drop k).flatMap Tx.places
theorem F4 {S:Al}{k:Nat}(hk:k<S.Aw.length):E4 S.Aw k=(S.t k).log.roots++((S.t k).AX.map (·.1)++E4 S.Aw (k+1)):=by
 have e2:S.Aw.drop k=S.t k::S.Aw.drop (k+1):=by rw[List.drop_eq_getElem_cons hk];congr 1;have:=Al.AV hk;rw[Qb hk]at this;injection this
 unfold E4;rw[e2,List.flatMap_cons];unfold Tx.places;rw[List.append_assoc]
end
theorem UP (o:Own):∀ n:Nat,∃ N,∀ b,b<n->(o b).1<N
 | 0=>⟨0,fun b h=>by omega⟩
 | n+1=>by
  obtain⟨N,hN⟩:=UP o n;refine⟨N+(o n).1+1,fun b hb=>?_⟩
  by_cases h:b=n
  ·rw[h];omega
  ·have:=hN b (by omega);omega
theorem Stp.shrink {T U:Tag->Prop}{o o':Own}{w w':Aa}(h:Stp U o o' w w')(ht:∀ b,b<w.heap.size->U (o b)->T (o b)):Stp T o o' w w':=
 ⟨h.os,h.tape,h.output,h.size,h.tags,fun b hb hn=>h.block b hb fun hu=>hn (ht b hb hu)⟩
theorem Row.takeN {w:Aa}{o:Own}{t:Tag}{e:TypeId}{g n cap:Nat}{xs:List Ac}(h:Row w o t e 1 (Ah (some ⟨g,0,none⟩) n cap) n xs){k:Nat}(hk:k<=n):Row w o t e 1 (Ah (some ⟨g,0,none⟩) k cap) k (xs.take k):=by
 refine⟨?_,h.tag⟩;have h1:=h.own.1;rcases h.own.2 with ⟨h',_⟩|⟨g',cap',cur,h',hb,hg,hn,hc,hs,ht⟩
 ·simp at h'
 ·simp only[Value.slice.injEq,Zb,Addr.mk.injEq,and_true,true_and]at h'
  obtain⟨rfl,rfl⟩:=h';refine⟨by rw[Qp];omega,.inr ⟨g,cap,cur,rfl,hb,hg,by omega,hc,hs,?_⟩⟩
  rw[<-ht,List.take_take];congr 1;omega
theorem Row.VS {w:Aa}{o:Own}{t:Tag}{e:TypeId}{g cap:Nat}{l:List Nat}(h:Row w o t e 1 (Ah (some ⟨g,0,none⟩) l.length cap) l.length (l.map nv)):DJ w g 0 l cap:=by
 rcases h.shape with ⟨h',_⟩|⟨g',cap',h',hn,_⟩
 ·simp at h'
 ·simp only[Value.slice.injEq,Zb,Addr.mk.injEq,and_true,true_and]at h'
  obtain⟨rfl,rfl⟩:=h';exact⟨hn,h.blt,fun j x hj=>by rw[Nat.zero_add];exact h.cells j _ (by rw[Qj,hj];rfl)⟩
section
variable {w w' : Aa} {o o' : Own} {y : A3} {S : Al} {i : Nat}
theorem Ap.G0 (h:Ap w o y S):Dl w o y.l y.cy S.ph [] []:=⟨⟨_,_,h.cy,Row.nil _ _ _ _ _,Row.nil _ _ _ _ _⟩,h.oy⟩
theorem WB (h:Ap w o y S)(hk:S.ok)(h0:S.ph≠0)(a:Option Addr)(n c:Nat) :
  Ab Tryz.prog 18 #[ptr y.sb,.slice a n c] w fun e w'=>e=O (Aj #[Ah none 0 0,.bool false])/\w=w':=by
 have HL:=Qa (uk h.G0 hk.ph.1);rw[decide_eq_true h0]at HL;obtain⟨vq,vl,vm,jb,_⟩:=h.AU;unfold qk at jb;have c':=jb.cell;clear h hk h0;go_enter Tryz.func18,Tryz.ntmps18;go_wp2_with fail;refine HL.out.mono ?_
 rintro e w1⟨rfl,rfl⟩
 go_wp2_with fail;go_ret2;exact⟨rfl,rfl⟩
def yr (H:Hp)(r:Nat):Bool:=decide (r=0)||(lk H.cur r).isSome
theorem YP (h:Ap w o y S)(hk:S.ok)(h0:S.ph=0){v:Ac}{ps:List Nat}{ta:Tag}(hv:Row w o ta 3 1 v ps.length (ps.map nv))(hp:ps.length<=100000)(hb:ps.all (yr S.H)=false) :
  Ab Tryz.prog 18 #[ptr y.sb,v] w fun e w'=>e=O (Aj #[Ah none 0 0,.bool false])/\Ae w.heap.size w w':=by
 have HL:=Qa (uk h.G0 hk.ph.1);rw[show decide (S.ph≠0)=false from by rw[h0];rfl]at HL
 have HH:=Qa (fun (w2:Aa)(hb:Ae w.heap.size w w2)(p:Nat)=>Pu (h.below hb) hk p)
 obtain⟨vq,vl,vm,jb,_⟩:=h.AU;unfold qk at jb;obtain⟨pv,cv,rfl⟩:=hv.AY;have HV:=Qa hv;have HJ:=Qa jb;have HB:=Qa hb;obtain⟨H,hHe⟩:∃ H,H=S.H:=⟨_,rfl⟩;rw[<-hHe]at HH HB;obtain⟨n,hn⟩:∃ n,n=ps.length:=⟨_,rfl⟩;rw[<-hn]at HV hp ⊢;have HN:=Qa hn;have c':=jb.cell;generalize S.next=N at *;generalize S.Av=N1 at *;generalize S.version=N2 at *;clear h hk h0 hv hb jb hHe hn;go_enter Tryz.func18,Tryz.ntmps18;go_wp2_with fail;refine HL.out.mono ?_
 rintro e w1 ⟨rfl,rfl⟩
 go_wp2_with fail;clear c';go_loopw [25](fun ix wr=>∃ k:Nat,ix=I Z k/\k<=n/\(ps.take k).all (yr H)=true/\Ae w.heap.size w wr)(fun ix _=>n-(intOf ix).toNat)
 case atStart=>exact⟨0,rfl,Nat.zero_le _,rfl,qc w⟩
 case round =>
  obtain⟨k,rfl,hkn,hall,hb⟩:=hrel;obtain⟨wo,rfl⟩:∃ wo:Aa,wo=wr:=⟨_,rfl⟩;have c':=(HJ.out.below hb HJ.out.lt).cell;by_cases hlt:k<n
  ·have hkI:(k:Int)<(n:Int):=by omega
   obtain⟨x,hx⟩:∃ x,ps[k]?=some x:=⟨_,Qb (by rw[<-HN.out];exact hlt)⟩
   obtain⟨g,cap,e,hcell⟩:∃ g cap,Value.slice pv n cv=Ah (some ⟨g,0,none⟩) n cap/\wo.cell? ⟨g,k,none⟩=some (I Z x):=by
    rcases (HV.out.below hb).form with ⟨_,h0⟩|⟨g,cap,e,_⟩
    ·omega
    ·injection e with e1 _ e3
     subst e1 e3;exact⟨g,cv,rfl,(HV.out.below hb).cells k _ (by rw[Qj,hx];rfl)⟩
   injection e with e1 _ e3;subst e1 e3;have htk:(ps.take (k+1)).all (yr H)=((ps.take k).all (yr H)&&yr H x):=by rw[List.take_add_one,hx,List.all_append];simp
   have HTK:=Qa htk;have HC:=Qa (HH.out wo hb x);have HAL:=Qa hall;obtain⟨hw1,hw2⟩:=qw k (by omega)
   by_cases hx0:x=0
   ·subst hx0
    have hxb:(((0:Nat):Int) != 0)=false:=rfl;clear hx hall htk;go_wp2_with fail;go_roundw
    case rel=>exact⟨k+1,by simp,by omega,by rw[HTK.out,HAL.out];rfl,hb⟩
    case measure=>simp[intOf];omega
   ·have hxb:((x:Int) != 0)=true:=by rw[bne_iff_ne];omega
    cases hs:(lk H.cur x).isSome with
    | true =>
     rw[hs]at HC;have hro:yr H x=true:=by unfold yr;rw[hs,Bool.or_true]
     have HRO:=Qa hro;clear hx hall htk hs hx0 hro;go_wp2_with fail;refine HC.out.mono ?_
     rintro e w3 ⟨rfl,hb3⟩
     go_wp2_with fail;go_roundw
     case rel=>exact⟨k+1,by simp,by omega,by rw[HTK.out,HAL.out,HRO.out];rfl,qd hb hb3⟩
     case measure=>simp[intOf];omega
    | false =>
     rw[hs]at HC;clear hx hall htk hs hx0;go_wp2_with fail;refine HC.out.mono ?_
     rintro e w3 ⟨rfl,hb3⟩
     go_wp2_with fail;go_ret2;exact⟨rfl,qd hb hb3⟩
  ·exfalso
   have h1:k=n:=by omega
   rw[h1,HN.out,List.take_length]at hall;have:=HB.out;rw[hall]at this
   cases this
end
section
variable {w w' : Aa} {o o' : Own} {y : A3} {S : Al} {i : Nat}
theorem ND (hk:S.ok):S.ER.ok/\S.ER.next+S.ER.H.final.length+S.MQ.length<=S.ER.H.Ax:=by
 obtain⟨h1,h2⟩:=dj hk;rw[Vw]at h1 h2;simp only at h1 h2;exact⟨⟨h1.H,h1.n2,h1.lv,h1.t1,h1.t8,h1.lg,h1.st,h1.ve,h1.ho,h1.sc,h1.so,h1.qu,h1.nx,h1.cm,h1.se,h1.ph⟩,h2⟩
theorem MJ (hk:S.ok):S.H.A1.2.length<=1099511627776:=by
 have h1:=hk.H.fl;have h2:=hk.H.ok.Bt;unfold Hp.A1;split
 ·simp
 ·rw[kp]
  have:=kr S.H S.H.final;omega
theorem Rm (hk:S.ok):S.H.drop.2.1.length<=1099511627776:=by
 have h1:=hk.H.wl;have h2:=hk.H.ok.Bt;unfold Hp.drop;split
 ·simp
 ·have h3:=du S.H.settled.Az S.H.settled
  have h4:S.H.settled.Az.length<=S.H.Az.length:=by show (S.H.stay S.H.Az).length<=_;have:=kr S.H S.H.Az;omega
  simp only;omega
theorem Gx (h:Ap w o y S)(hk:S.ok) :
  Ab Tryz.prog 67 #[ptr y.cy] w fun e w'=>e=O (.bool S.Bg.2)/\∃ o' vr vs,Co w' o' y S.ER vr vs S.MQ S.G6/\Stp (qh y) o o' w w':=by
 rw[Q0];simp only;have ho:=h.Pj;by_cases h0:S.ph=0
 ·have e:yu S.H S.ph [] []=(S.H,0,[],[],false):=by unfold yu;rw[if_pos h0]
  have hc:=h.G0;rw[h0]at hc;refine (WO hc).mono ?_
  rintro e' w'⟨rfl,hb⟩
  unfold Al.ER Al.MQ Al.G6;rw[e];refine⟨rfl,o,Ah none 0 0,Ah none 0 0,?_,Stp.of_below hb⟩;have e2:({ S with H:=S.H,ph:=0 }:Al)=S:=by obtain⟨⟩:=S;simp only at h0;subst h0;rfl
  simp only;rw[e2];exact ho.below hb
 ·refine (Jc h.hp hk.H h.G0 (by have:=hk.ph.1;omega) (by simp) (MJ hk) (by simp) (Rm hk)).mono ?_
  rintro e' w'⟨rfl,o',hH,hC,hs⟩
  obtain⟨vr,vs,hb,h1,h2⟩:=hC.AU;exact⟨rfl,o',vr,vs,ho.ER hH hb h1 h2 hs,hs.mono fun _ h=>h.1⟩
end
theorem dw (y:A3)(j:Nat)(h:j=11\/j=13\/j=14\/j=15):jr y (y.l.id,j):=⟨rfl,h⟩
theorem Yw (S:Al)(p:Nat):(S.AW p).next<=S.next+1:=by
 unfold Al.AW;split
 ·exact Nat.le_succ _
 ·exact Qk _
theorem VF:∀ (l:List Nat)(S:Al),(S.A0 l).next<=S.next+l.length
 | [],S=>Qk _
 | p::l,S=>by
  have h1:=Yw S p;have h2:=VF l (S.AW p);show ((S.AW p).A0 l).next<=_;rw[Qv];omega
theorem Vl:∀ (l:List Nat)(S:Al),(S.A0 l).lost=S.lost
 | [],_=>rfl
 | p::l,S=>by
  show ((S.AW p).A0 l).lost=_;rw[Vl l (S.AW p)];unfold Al.AW;split<;>rfl
section
variable {w w' : Aa} {o o' : Own} {y : A3} {S : Al} {i : Nat}
theorem qmi (h0:Ap w o y S) (hk:S.ok) (hl:S.lost.length<=1099511627776) :
  Ab Tryz.prog 19 #[ptr y.sb] w fun e w'=>e=O (.bool S.Bg.2)/\Bl y S.Bg.1 o w w':=by
 obtain⟨iI,hi,hsI,hyI,hzI⟩:=zi;obtain⟨iU,hiU,hsU,hyU,hzU⟩:=ut;have hu64:=Tryz.underlying25;have huI:=Tryz.underlying99;have HY:=Qa (Gx h0 hk);obtain⟨hk1,hk2⟩:=ND hk
 have hls:S.G6.length<=1099511627776:=by
  unfold Al.G6 yu;split
  ·simp
  ·split
   ·simp
   ·split
    ·simp
    ·simp only[List.nil_append];exact Rm hk
 have hfin:=Q0 S;obtain⟨T,hT⟩:∃ T,T=S.ER:=⟨_,rfl⟩;obtain⟨rd,hrd⟩:∃ rd,rd=S.MQ:=⟨_,rfl⟩;obtain⟨ls,hlse⟩:∃ ls,ls=S.G6:=⟨_,rfl⟩;obtain⟨b,hb⟩:∃ b,b=S.Bg.2:=⟨_,rfl⟩;have hTl:T.lost=S.lost:=by rw[hT];rfl
 rw[<-hT,<-hrd,<-hlse]at HY hfin;rw[<-hb]at HY ⊢;rw[<-hT]at hk1 hk2;rw[<-hrd]at hk2;rw[<-hlse]at hls;have hS1:S.Bg.1={ T.A0 rd with lost:=S.lost++ls }:=by rw[hfin]
 rw[hS1,<-hTl];rw[<-hTl]at hl;obtain⟨vq,vl,vm,jb,_⟩:=h0.AU;unfold qk at jb;have c:=jb.cell;have HK1:=Qa hk1;have HK2:=Qa hk2;have HLs:=Qa hls;have HTl:=Qa hl;generalize S.next=N at *;generalize S.Av=N1 at *;generalize S.version=N2 at *;clear h0 hk hl hT hrd hlse hb hTl hfin hk1 hk2 hls hS1 jb;go_enter Tryz.func19,Tryz.ntmps19;go_wp2_with fail;refine HY.out.mono ?_
 rintro e w1 ⟨rfl,o1,vr,vs,hC1,hs1⟩
 have HRd:=Qa (qn3 hC1.cb hC1.oy hC1.cr);obtain⟨vq1,vl1,vm1,j1,_⟩:=hC1.AU;unfold qk at j1;clear c;have c:=j1.cell;have HC1:=Qa hC1;have HS1:=Qa hs1;clear hC1 hs1 HY;go_wp2_with fail;refine HRd.out.mono ?_
 rintro e w2 ⟨rfl,hr2,hb2,hs2⟩
 obtain⟨pr,cr,rfl⟩:=hr2.AY;have hC2:Co w2 o1 y T (Ah none 0 0) vs [] ls:=HC1.out.Tf hb2 (Row.nil _ _ _ _ _) (HC1.out.cl.Ao hs2 (by simp)) hs2
 have hs2':Stp (qh y) o o1 w w2:=HS1.out.trans (hs2.mono (by rintro _ rfl;exact rfl))
 obtain⟨n,hn⟩:∃ n,n=rd.length:=⟨_,rfl⟩;rw[<-hn]at hr2 ⊢;have HN:=Qa hn;have hn40:n<=1099511627776:=by rw[hn];have:=HK2.out;have:=HK1.out.H.ok.Bt;omega
 have HN40:=Qa hn40;have HX:=Qa (And.intro hC2 (And.intro hr2 hs2'));clear hC2 hr2 hs2' hs2 hb2 HC1 HS1 HRd c j1 hn hn40;go_wp2_with fail;go_loopw [24] (fun ix wr=>∃ (k:Nat) (oo:Own),ix=I Z k/\k<=n/\Co wr oo y (T.A0 (rd.take k)) (Ah none 0 0) vs [] ls/\Row wr oo (y.l.id,8) 3 1 (.slice pr n cr) n (rd.map nv)/\Stp (qh y) o oo w wr) (fun ix _=>n-(intOf ix).toNat)
 case atStart=>exact⟨0,o1,rfl,Nat.zero_le _,HX.out⟩
 case round =>
  clear HX;obtain⟨k,oo,rfl,hkn,hC,hr,hs⟩:=hrel;obtain⟨wo,rfl⟩:∃ wo:Aa,wo=wr:=⟨_,rfl⟩;have hok:=dy (rd.take k) HK1.out (by rw[Qp];have:=HK2.out;omega)
  by_cases hlt:k<n
  ·have hkI:(k:Int)<(n:Int):=by omega
   obtain⟨x,hx⟩:∃ x,rd[k]?=some x:=⟨_,Qb (by rw[<-HN.out];exact hlt)⟩
   have htk:=jj hx;have hst:T.A0 (rd.take (k+1))=(T.A0 (rd.take k)).AW x:=by rw[htk];exact qhs _ _ _
   have hnx:(T.A0 (rd.take k)).next+1<=1099511627776/\(T.A0 (rd.take k)).came.length+1<=1099511627776:=by
    have h1:=VF (rd.take k) T;have h2:=hok.1.cm;have h3:=HK2.out;have h4:=HK1.out.H.ok.Bt;rw[Qp]at h1;have h5:=HN.out;omega
   obtain⟨U,hU⟩:∃ U,U=T.A0 (rd.take k):=⟨_,rfl⟩;rw[<-hU]at hC hok hst hnx;have HST:=Qa hst
   obtain⟨g,cap,e,hcell⟩:∃ g cap,Value.slice pr n cr=Ah (some ⟨g,0,none⟩) n cap/\wo.cell? ⟨g,k,none⟩=some (I Z x):=by
    rcases hr.form with ⟨_,h0⟩|⟨g,cap,e,_⟩
    ·omega
    ·injection e with e1 _ e3
     subst e1 e3;exact⟨g,cr,rfl,hr.cells k _ (by rw[Qj,hx];rfl)⟩
   injection e with e1 _ e3;subst e1 e3;have HSh:=Qa (GY hC.hp hok.1.H.ok x);have HK:=Qa hok.1;obtain⟨vq,vl,vm,jb,hrw⟩:=hC.AU;unfold qk at jb;have hrq:=hrw.q;obtain⟨pq,cq,rfl⟩:=hrq.AY;have HJ:=Qa jb;have HW:=Qa hrw;have HC:=Qa hC;have HR:=Qa hr;have HS:=Qa hs;have HNX:=Qa hnx;have HKN:=Qa (qw k (by have:=HN40.out;omega))
   have c:=jb.cell
   cases hf:U.H.Du x with
   | true =>
    rw[hf]at HSh;have hr1:U.AW x=U:=by unfold Al.AW;rw[if_pos (.inl hf)]
    rw[hr1]at HST;clear hx htk hst hnx hC hok hU hr1 hf jb hrw hr hs hrq;go_wp2_with fail;refine HSh.out.mono ?_
    rintro e w3 ⟨sp,sd,wk,fn,er,rfl,hb3⟩
    obtain⟨hw1,hw2⟩:=HKN.out;clear c;go_wp2_with fail;go_roundw
    case rel=>exact⟨k+1,oo,by simp,hlt,by rw[HST.out];exact HC.out.below (qa hb3 _),HR.out.below (qa hb3 _),HS.out.trans (Stp.of_below (qa hb3 _))⟩
    case measure=>simp[intOf];omega
   | false =>
    rw[hf]at HSh;by_cases h100:100<=U.queue.length
    ·have hr1:U.AW x=U:=by unfold Al.AW;rw[if_pos (.inr h100)]
     rw[hr1]at HST;have hqI:(100:Int)<=(U.queue.length:Int):=by omega
     obtain⟨hw1,hw2⟩:=HKN.out;clear hx htk hst hnx hC hok hU hr1 hf hrw hr hs hrq;go_wp2_with (first|(go_at_call 69;refine HSh.out.mono ?_;rintro e w3 ⟨sp,sd,wk,fn,er,rfl,hb3⟩;have c3:=((jb.below hb3 jb.lt).alloc (.cells #[I Z sp,I Z sd,.bool wk,.bool fn] 93)).cell)|fail)
     go_roundw
     case rel=>exact⟨k+1,oo,by simp,hlt,by rw[HST.out];exact HC.out.below (qa hb3 _),HR.out.below (qa hb3 _),HS.out.trans (Stp.of_below (qa hb3 _))⟩
     case measure=>simp[intOf];omega
    ·have hr1:U.AW x={ U with queue:=U.queue++[(x,U.next)],came:=U.came++[(U.H.Da x).1],next:=U.next+1 }:=by unfold Al.AW;rw[if_neg (by rw[hf];simp[h100])]
     rw[hr1]at HST;have hqI:¬((100:Int)<=(U.queue.length:Int)):=by omega
     have hql:U.queue.length<100:=by omega
     have HSe:=Qa (fun (w2:Aa) (hb:Ae wo.heap.size wo w2)=>Yp (HC.out.below hb).hp HK.out.H.ok x)
     obtain⟨Bt,hser⟩:∃ Bt,Bt=(U.H.Da x).1:=⟨_,rfl⟩;obtain⟨se2,hse2⟩:∃ se2,se2=(U.H.Da x).2:=⟨_,rfl⟩;rw[<-hser]at HST HSe;rw[<-hse2]at HSe;clear hx htk hst hnx hC hok hU hr1 hf hrw hr hs hrq h100 hser hse2
     go_wp2_with (first
      | (go_at_call 69;refine HSh.out.mono ?_;rintro e w3 ⟨sp,sd,wk,fn,er,rfl,hb3⟩;have c3:=((jb.below hb3 jb.lt).alloc (.cells #[I Z sp,I Z sd,.bool wk,.bool fn] 93)).cell;have hb3':=qa hb3 (.cells #[I Z sp,I Z sd,.bool wk,.bool fn] 93))
      | (go_at_call 70;refine (HSe.out _ hb3').mono ?_;rintro e w4 ⟨rfl,hb4⟩;have hbw:=qd hb3' hb4;have c4:=(jb.below hbw jb.lt).cell)
      | fail)
     have C4:=HC.out.below hbw;have R4:=Qa (HR.out.below hbw);have S4:=Qa (HS.out.trans (Stp.of_below hbw));obtain⟨vq4,vl4,vm4,j4,hrw4⟩:=C4.AU;have hoS:=C4.os;have rq4:=hrw4.q;have rm4:=hrw4.m;obtain⟨pq4,cq4,rfl⟩:=rq4.AY;obtain⟨pm4,cm4,rfl⟩:=rm4.AY;have J4:=Qa j4;unfold qk at j4;clear c c3 c4 hb3 hb3' hb4 hbw HSh HSe HC HR HS HJ HW jb;have c4:=j4.cell;have hne13:∀ b,o b=(y.l.id,13)->True:=fun _ _=>trivial
     have jn:=Am.new w4.drew #[I Z x,I Z U.next] 117;have rn:Row (w4.drew.alloc (.cells #[I Z x,I Z U.next] 117)) oo (y.l.id,13) 117 2 (.slice pq4 U.queue.length cq4) U.queue.length (qg U.queue):=rq4.below (qa (qe (qc w4)) _);have hml:U.queue.length+1<=maxLen/\(U.queue.length+1)*16<=140737488355328:=by simp only[maxLen];omega
     obtain⟨hml,hmb⟩:=hml;have h1c:∀ u ∈ [Value.int .i64 (x:Int),I Z (U.next:Int)],u.oneCell'=true:=by intro u hu;simp at hu;rcases hu with rfl|rfl<;>rfl
     have HF10:=Qa (fun (w5:Aa) (o5:Own) (p5:Option Addr) (c5:Nat) (hown:Row w5 o5 (y.l.id,13) 117 2 (.slice p5 (U.queue.length+1) c5) (U.queue.length+1) (qg U.queue++[I Z x,I Z U.next])) (hst:Stp (fun u=>u=(y.l.id,13)) oo o5 (w4.drew.alloc (.cells #[I Z x,I Z U.next] 117)) w5) =>
      show Co (w5.setCell ⟨y.sb,4,none⟩ (.slice p5 (U.queue.length+1) c5)) o5 y { U with queue:=U.queue++[(x,U.next)] } (Ah none 0 0) vs [] ls/\Row (w5.setCell ⟨y.sb,4,none⟩ (.slice p5 (U.queue.length+1) c5)) o5 (y.l.id,8) 3 1 (Ah (some ⟨g,0,none⟩) n cr) n (rd.map nv)/\Stp (qh y) o o5 w (w5.setCell ⟨y.sb,4,none⟩ (.slice p5 (U.queue.length+1) c5)) from by
       have kb:Stp (fun u=>u=(y.l.id,13)) oo oo w4 (w4.drew.alloc (.cells #[I Z x,I Z U.next] 117)):=Stp.of_below (qa (qe (qc w4)) _)
       have k1:=kb.trans hst;have o5s:o5 y.sb=(y.l.id,11):=(k1.tags _ J4.out.lt).trans hoS;have k2:Stp (fun u=>u=(y.l.id,11)) o5 o5 w5 (w5.setCell ⟨y.sb,4,none⟩ (.slice p5 (U.queue.length+1) c5)):=(Stp.refl _ o5 w5).setCell (by show o5 y.sb=_;exact o5s) _
       have k3:Stp (jr y) oo o5 w4 (w5.setCell ⟨y.sb,4,none⟩ (.slice p5 (U.queue.length+1) c5)):=(k1.mono (by rintro _ rfl;exact dw y 13 (by omega))).trans (k2.mono (by rintro _ rfl;exact dw y 11 (by omega)))
       have hq5:Row (w5.setCell ⟨y.sb,4,none⟩ (.slice p5 (U.queue.length+1) c5)) o5 (y.l.id,13) 117 2 (.slice p5 (U.queue.length+1) c5) (U.queue++[(x,U.next)]).length (qg (U.queue++[(x,U.next)])):=
        (hown.Ao k2 (by simp)).ite (by simp) (by rw[gi];rfl)
       refine⟨C4.own (S':={ U with queue:=U.queue++[(x,U.next)] }) rfl rfl rfl rfl rfl ((J4.out.Ao k1 (by rw[hoS];simp)).set 4 _) ⟨hq5,(hrw4.l.Ao k1 (by simp)).Ao k2 (by simp),(hrw4.m.Ao k1 (by simp)).Ao k2 (by simp)⟩ k3,R4.out.Ao k3 (dl (by omega) (by omega) (by omega) (by omega)),S4.out.trans (k3.mono fun _ h=>h.1)⟩)
     have HJk:=Qa (fun (w5:Aa) (o5:Own) (hst:Stp (fun u=>u=(y.l.id,13)) oo o5 (w4.drew.alloc (.cells #[I Z x,I Z U.next] 117)) w5)=>(j4.below (qa (qe (qc w4)) (.cells #[I Z x,I Z U.next] 117)) j4.lt).Ao hst (by rw[hoS];simp))
     have s4:=j4.lt;clear C4 hrw4 rq4 rm4;go_region_law ((refine zj _ (by rfl) _ _ _ (by rfl) 117 iU _ 2 16 huI hiU hzU hsU hyU (by rfl) (by decide) oo (y.l.id,13) _ _ _ (by rfl) rn ⟨w4.heap.size,0,none⟩ 1 1 [I Z x,I Z U.next] (by rfl) (by rfl) (pw jn) h1c hml hmb ?_;intro v' w5 hown hst;obtain⟨p5,c5,rfl⟩:=hown.AY;have jX:=HJk.out _ _ hst;have cX:=jX.cell;have zX:=jX.free;have sX:=jX.lt))
     all_goals
      obtain⟨W6,o6,hW6,C6,R6,S6⟩:∃ (W6:Aa) (o6:Own),W6=w5.setCell ⟨y.sb,4,none⟩ (.slice p5 (U.queue.length+1) c5)/\Co W6 o6 y { U with queue:=U.queue++[(x,U.next)] } (Ah none 0 0) vs [] ls /\
       Row W6 o6 (y.l.id,8) 3 1 (Ah (some ⟨g,0,none⟩) n cr) n (rd.map nv)/\Stp (qh y) o o6 w W6:=⟨_,_,rfl,HF10.out w5 _ p5 c5 hown hst⟩
      rw[<-hW6];clear hW6 hown hst jX cX zX sX HF10 HJk J4 R4 S4;have o6s:=C6.os;obtain⟨vq6,vl6,vm6,j6,hrw6⟩:=C6.AU;have rm6:=hrw6.m;obtain⟨pm6,cm6,rfl⟩:=rm6.AY;have j6':Am W6 y.sb #[ptr y.l.h,ptr y.cy,ptr y.ck,y.EO,vq6,I Z U.next,I Z U.Av,I Z U.version,vl6,.slice pm6 U.came.length cm6] 101:=j6;have rm6':Row W6 o6 (y.l.id,15) 3 1 (.slice pm6 U.came.length cm6) U.came.length (U.came.map nv):=rm6
      have HF11:=Qa (fun (w7:Aa) (o7:Own) (p7:Option Addr) (c7:Nat) (hown7:Row w7 o7 (y.l.id,15) 3 1 (.slice p7 (U.came.length+1) c7) (U.came.length+1) (U.came.map nv++[I Z Bt])) (hst7:Stp (fun t=>t=(y.l.id,15)) o6 o7 (W6.alloc (.cells #[I Z Bt] 3)) w7) =>
       show Am w7 y.sb #[ptr y.l.h,ptr y.cy,ptr y.ck,y.EO,vq6,I Z U.next,I Z U.Av,I Z U.version,vl6,.slice pm6 U.came.length cm6] 101 /\
        Co ((w7.setCell ⟨y.sb,9,none⟩ (.slice p7 (U.came.length+1) c7)).setCell ⟨y.sb,5,none⟩ (I Z ((U.next:Int)+1))) o7 y { U with queue:=U.queue++[(x,U.next)],came:=U.came++[Bt],next:=U.next+1 } (Ah none 0 0) vs [] ls /\
        Row ((w7.setCell ⟨y.sb,9,none⟩ (.slice p7 (U.came.length+1) c7)).setCell ⟨y.sb,5,none⟩ (I Z ((U.next:Int)+1))) o7 (y.l.id,8) 3 1 (Ah (some ⟨g,0,none⟩) n cr) n (rd.map nv) /\
        Stp (qh y) o o7 w ((w7.setCell ⟨y.sb,9,none⟩ (.slice p7 (U.came.length+1) c7)).setCell ⟨y.sb,5,none⟩ (I Z ((U.next:Int)+1))) from by
       have k1:Stp (fun t=>t=(y.l.id,15)) o6 o7 W6 w7:=(Stp.of_below (qa (qc W6) _)).trans hst7
       have j7:=j6'.Ao k1 (by rw[o6s];simp)
       have o7s:o7 y.sb=(y.l.id,11):=(k1.tags _ j6'.lt).trans o6s;have k2:Stp (fun t=>t=(y.l.id,11)) o7 o7 w7 ((w7.setCell ⟨y.sb,9,none⟩ (.slice p7 (U.came.length+1) c7)).setCell ⟨y.sb,5,none⟩ (I Z ((U.next:Int)+1))):=((Stp.refl _ o7 w7).setCell (by show o7 y.sb=_;exact o7s) _).setCell (by show o7 y.sb=_;exact o7s) _
       have k3:Stp (jr y) o6 o7 W6 ((w7.setCell ⟨y.sb,9,none⟩ (.slice p7 (U.came.length+1) c7)).setCell ⟨y.sb,5,none⟩ (I Z ((U.next:Int)+1))):=(k1.mono (by rintro _ rfl;exact dw y 15 (by omega))).trans (k2.mono (by rintro _ rfl;exact dw y 11 (by omega)))
       have j9:=(j7.set 9 (.slice p7 (U.came.length+1) c7)).set 5 (I Z ((U.next:Int)+1));refine⟨j7,C6.own (S':={ U with queue:=U.queue++[(x,U.next)],came:=U.came++[Bt],next:=U.next+1 }) rfl rfl rfl rfl rfl (vq:=vq6) (vl:=vl6) (vm:=.slice p7 (U.came.length+1) c7) j9 ⟨(hrw6.q.Ao k1 (by simp)).Ao k2 (by simp),(hrw6.l.Ao k1 (by simp)).Ao k2 (by simp),(hown7.Ao k2 (by simp)).ite (by simp) (by simp[nv])⟩ k3,R6.Ao k3 (dl (by omega) (by omega) (by omega) (by omega)),S6.trans (k3.mono fun _ h=>h.1)⟩)
      have hml2:U.came.length+1<=maxLen/\(U.came.length+1)*8<=140737488355328:=by have:=HNX.out;simp only[maxLen];omega
      obtain⟨hml2,hmb2⟩:=hml2;obtain⟨hw1,hw2⟩:=HKN.out;obtain⟨hw3,hw4⟩:=qw U.next (by have:=HNX.out;omega)
      have RM6:=Qa rm6';have c6:=j6'.cell;have l6:=j6'.lt;clear C6 R6 S6 hrw6 rm6 rm6' j6 j6' o6s
      go_wp2_with (first
       | (at_builtin;refine qf _ rfl _ _ _ rfl 3 iI _ 1 8 hu64 hi hzI hsI hyI rfl (by decide) o6 (y.l.id,15) _ _ _ rfl (RM6.out.below (qa (qc W6) _)) ⟨W6.heap.size,0,none⟩ 1 1 [I Z Bt] rfl rfl (qx (Am.new W6 _ _)) zw hml2 hmb2 ?_;intro v7 w7 hown7 hst7;obtain⟨p7,c7,rfl⟩:=hown7.AY;obtain⟨j7,hfin⟩:=HF11.out _ _ _ _ hown7 hst7;have c7:=j7.cell;have z7:=j7.free;have l7:=j7.lt)
       | fail)
      go_roundw
      case rel=>exact⟨k+1,_,by simp,hlt,by rw[HST.out];exact hfin.1,hfin.2.1,hfin.2.2⟩
      case measure=>clear hw1 hw2 hw3 hw4 hml2 hmb2 hqI HNX;simp[intOf];omega
  ·obtain rfl:k=n:=by omega
   rw[HN.out,List.take_length]at hC;have hlo:(T.A0 rd).lost=T.lost:=Vl rd T;obtain⟨TT,hTT⟩:∃ TT,TT=T.A0 rd:=⟨_,rfl⟩;rw[<-hTT]at hC hlo;have HPost:=Qa (show ∀ (w':Aa) (o':Own),Ap w' o' y { TT with lost:=TT.lost++ls }->Stp (qh y) o o' w w'->Bl y { T.A0 rd with lost:=T.lost++ls } o w w' from fun w' o' h1 h2=>⟨o',by rw[<-hlo,<-hTT];rw[hTT]at h1 ⊢;exact h1,h2⟩)
   rw[<-hlo]at HTl;obtain⟨vq,vl,vm,jb,hrw⟩:=hC.AU;have hrl:=hrw.l;obtain⟨pl,cl,rfl⟩:=hrl.AY;have hcl:=hC.cl;obtain⟨pvs,cvs,rfl⟩:=hcl.AY;have jb':Am wo y.sb #[ptr y.l.h,ptr y.cy,ptr y.ck,y.EO,vq,I Z TT.next,I Z TT.Av,I Z TT.version,.slice pl TT.lost.length cl,vm] 101:=jb;have HLo:=Qa (GZ (hC.below (qe (qc wo))).cb hC.oy (hC.below (qe (qc wo))).cl);have oS:=hC.os
   have HX:=Qa (fun (w3:Aa) (hr:Row w3 oo (y.l.id,9) 3 1 (.slice pvs ls.length cvs) ls.length (ls.map nv)) (hb:Am w3 y.cy #[ptr y.l.h,Ff y.cy TT.ph,Ah none 0 0,Ah none 0 0] 201) (h3:Stp (fun t=>t=(y.l.id,7)) oo oo wo.drew w3) =>
    show Co w3 oo y TT (Ah none 0 0) (Ah none 0 0) [] []/\Am w3 y.sb #[ptr y.l.h,ptr y.cy,ptr y.ck,y.EO,vq,I Z TT.next,I Z TT.Av,I Z TT.version,.slice pl TT.lost.length cl,vm] 101/\Row w3 oo (y.l.id,14) 3 1 (.slice pl TT.lost.length cl) TT.lost.length (TT.lost.map nv) from by
     have h3':Stp (fun t=>t=(y.l.id,7)) oo oo wo w3:=(Stp.of_below (qe (qc wo))).trans h3
     exact⟨hC.Tf hb (Row.nil _ _ _ _ _) (Row.nil _ _ _ _ _) h3',jb'.Ao h3' (by rw[oS];simp),hrl.Ao h3' (by simp)⟩)
   have HY:=Qa (fun (w3 w5:Aa) (o5:Own) (v5:Ac) (h3:Stp (fun t=>t=(y.l.id,7)) oo oo wo.drew w3) (C3:Co w3 oo y TT (Ah none 0 0) (Ah none 0 0) [] []) (j3:Am w3 y.sb #[ptr y.l.h,ptr y.cy,ptr y.ck,y.EO,vq,I Z TT.next,I Z TT.Av,I Z TT.version,.slice pl TT.lost.length cl,vm] 101)
     (hown:Row w5 o5 (y.l.id,14) 3 1 v5 (TT.lost.length+ls.length) (TT.lost.map nv++ls.map nv)) (hst:Stp (fun t=>t=(y.l.id,14)) oo o5 w3 w5) =>
    show Am w5 y.sb #[ptr y.l.h,ptr y.cy,ptr y.ck,y.EO,vq,I Z TT.next,I Z TT.Av,I Z TT.version,.slice pl TT.lost.length cl,vm] 101/\Bl y { T.A0 rd with lost:=T.lost++ls } o w (w5.setCell ⟨y.sb,8,none⟩ v5) from by
     have j5:=j3.Ao hst (by rw[oS];simp)
     have o5s:o5 y.sb=(y.l.id,11):=(hst.tags _ j3.lt).trans oS;have k2:Stp (fun t=>t=(y.l.id,11)) o5 o5 w5 (w5.setCell ⟨y.sb,8,none⟩ v5):=(Stp.refl _ o5 w5).setCell (by show o5 y.sb=_;exact o5s) _
     have k3:Stp (jr y) oo o5 w3 (w5.setCell ⟨y.sb,8,none⟩ v5):=(hst.mono (by rintro _ rfl;exact dw y 14 (by omega))).trans (k2.mono (by rintro _ rfl;exact dw y 11 (by omega)))
     obtain⟨vq',vl',vm',jx,hrx⟩:=C3.AU
     have exq:vq'=vq/\vm'=vm:=by
      have a1:=jx.cell (i:=4);have a2:=jx.cell (i:=9);rw[j3.cell]at a1 a2;simp[qk]at a1 a2;exact⟨a1.symm,a2.symm⟩
     obtain⟨rfl,rfl⟩:=exq;have C5:=C3.own (S':={ TT with lost:=TT.lost++ls }) rfl rfl rfl rfl rfl (vq:=vq') (vl:=v5) (vm:=vm') (j5.set 8 v5) ⟨(hrx.q.Ao hst (by simp)).Ao k2 (by simp),(hown.Ao k2 (by simp)).ite (by simp) (by simp),(hrx.m.Ao hst (by simp)).Ao k2 (by simp)⟩ k3
     have h3':Stp (qh y) oo oo wo w3:=((Stp.of_below (qe (qc wo))).trans h3).mono (by rintro _ rfl;rfl)
     exact⟨j5,HPost.out _ _ C5.close ((hs.trans h3').trans (k3.mono fun _ h=>h.1))⟩)
   have hml:TT.lost.length+ls.length<=maxLen/\(TT.lost.length+ls.length)*8<=140737488355328:=by have:=HTl.out;have:=HLs.out;simp only[maxLen];omega
   obtain⟨hml,hmb⟩:=hml;have hhs:w.heap.size<=wo.heap.size:=hs.size;have cb:=jb'.cell;have lb:=jb'.lt;clear hTT hlo hrw hrl hcl jb jb' hC hs hr hok HPost hlt hkn hhs;go_upto_region 14 with fail
   go_region_law (first
    | (refine ul _ (by rfl) _ _ _ (by rfl) 3 iI _ 1 8 hu64 hi hzI hsI hyI (by rfl) (by decide) oo (y.l.id,14) _ TT.lost.length (TT.lost.map nv) (by rfl) rL oo (y.l.id,9) _ ls.length (ls.map nv) (by rfl) rS (bz _) hml hmb ?_;intro v5 w5 hown hst;obtain⟨p5,c5,rfl⟩:=hown.AY;obtain⟨j5,hfin⟩:=HY.out _ _ _ _ h3 C3 j3 hown hst;have c5':=j5.cell;have z5:=j5.free;have l5:=j5.lt)
    | (go_simp;go_wp2_with ((go_at_call 71;refine HLo.out.mono ?_;rintro e w3 ⟨rfl,rS,b3,h3⟩;obtain⟨C3,j3,rL⟩:=HX.out w3 rS b3 h3;have c3:=j3.cell;have l3:=j3.lt))))
   all_goals
    go_wp2_with fail;go_ret;exact⟨rfl,hfin⟩
end
end
end Go.Proofs.YteehgedabdchcaaGreat
