import Derived.Test.YteehgedabdchcaaGreatKai
set_option linter.all false
set_option maxRecDepth 1000000
set_option maxHeartbeats 0
open Go renaming World->Aa,Calls->Ab,Value->Ac
open Go.RowKit renaming Below->Ae
open Go.Value renaming int->I,pointer->Ag,slice->Ah,tuple->Aj,agg->Ak
open Go.IntKind renaming i64->Z
open Go.Ending renaming returned->O
open Go.Proofs.Tryz
namespace Go.Proofs.YteehgedabdchcaaGreat
section
open Go.RowKit Hp
attribute [local go_sem ↓] Go.wp_at_zero Go.wp_at_succ
def px {α:Type}:∀ (ps qs:List α)(k:Nat)(x:α),ps[k]?=some x->k<qs.length->(ps.take k++qs.drop k).set k x=ps.take (k+1)++qs.drop (k+1)
 | [],_,k,x,h,_=>by simp at h
 | p::ps,[],k,x,_,h=>by simp at h
 | p::ps,q::qs,0,x,h,_=>by simp at h;subst h;simp
 | p::ps,q::qs,k+1,x,h,hk=>by
  have:=px ps qs k x (by simpa using h) (by simpa using hk)
  simpa using this
section
variable {w : Aa} {a wd L : Nat} {f : Nat -> Nat} {p : Nat} {ob : Ob}
def Else (f f':Nat->Nat)(p n:Nat):Prop:=∀ j,j<p\/p+n<=j->f' j=f j
def qew (h:BB w a wd L f)(ho:Bj f p ob)(hk:ob.ok)(hl:p+ob.size<=L)(ps:List Nat)(hps:∀ x ∈ ps,x<=131072)(hn:ps.length=ob.AN.length){v:Ac}(hv:∀ w',Wr wd w w'->Ints w' v ps) :
  Ab Tryz.prog 195 #[Ag (some ⟨a,0,none⟩),I Z p,v] w fun e w'=>e=O (I Z 0)/\∃ f',BB w' a wd L f'/\Wr wd w w'/\Bj f' p (ob.Cn ps)/\Else f f' p ob.size:=by
 have HS:=Qa (kr h ho hk hl p rfl);have HT:=Qa (fun w=>W8 ob.AQ w)
 have hlp:=hk.lp;have h8:=hk.AQ.1;have HW:=Qa h;have HO:=Qa ho;have HK:=Qa hk;have HL:=Qa hl;have HP:=Qa hps;have HV:=Qa hv;obtain⟨n,hnn⟩:=Ja0 ps.length;have hsn:(if ob.AQ.Az then (0:Int) else (ob.AQ.p:Int))=(n:Int):=by
  rw[hnn,hn];unfold Ob.AN;split
  ·rfl
  ·rw[hlp]
 have hns:n<=ob.AQ.p:=by
  rw[hnn,hn];unfold Ob.AN;split
  ·exact Nat.zero_le _
  ·rw[hlp];exact Qk _
 have hfin:({ ob with Bc:=ps.take n++ob.Bc.drop n }:Ob)=ob.Cn ps:=by
  unfold Ob.Cn;rw[hnn,List.take_length];unfold Ob.AN at hn;split
  ·rename_i hw
   rw[if_pos hw]at hn;have:ps=[]:=List.eq_nil_of_length_eq_zero hn;subst this;simp
  ·rename_i hw
   rw[if_neg hw]at hn;rw[hn,List.drop_length,List.append_nil]
 have HFin:=Qa hfin;have HN:=Qa hnn;simp only[hsn]at HT;have HT:=Qa (show ∀ w:Aa,Ab Tryz.prog 243 #[Ak #[I Z ob.AQ.p,I Z ob.AQ.d,.bool ob.AQ.Az,.bool ob.AQ.final]] w fun e w'=>e=O (I Z n)/\Ae w.1.size w w' from HT.out)
 obtain⟨va,vcp,rfl⟩:∃ a c,v=.slice a n c:=by
  obtain⟨a',c',e,_⟩:=hv w (Wr.refl _ _);exact⟨a',c',by rw[hnn];exact e⟩
 clear h ho hk hl hps hn hv hsn hfin hnn;go_enter func195,ntmps195;go_wp2_with fail;refine HS.out.mono ?_
 rintro e w1 ⟨rfl,hb1⟩
 have jB:=Al.new w1 #[I Z ob.AQ.p,I Z ob.AQ.d,.bool ob.AQ.Az,.bool ob.AQ.final] 93;have cB:=jB.cell;have hb2:=qc hb1 (.cells #[I Z ob.AQ.p,I Z ob.AQ.d,.bool ob.AQ.Az,.bool ob.AQ.final] 93);go_wp2_with fail;refine (HT.out _).mono ?_
 rintro e w2 ⟨rfl,hb3⟩
 have hb4:=qe hb2 hb3;clear hb1 hb2 hb3 jB cB;have xH:(n:Int)<=8:=by omega
 go_wp2_with fail;go_loop [32](fun ix=>∃ k:Nat,ix=I Z k/\k<=n)(fun ix=>n-(intOf ix).toNat)
 case atStart=>exact⟨0,rfl,by omega⟩
 case round =>
  obtain⟨k,rfl,hkn⟩:=hrel;by_cases hlt:k<n
  ·have gT:(k:Int)<(n:Int):=by omega
   have hk8:(k:Int)<8:=by omega
   obtain⟨x,hx⟩:∃ x,ps[k]?=some x:=⟨_,Qb (by rw[<-HN.out];omega)⟩
   have hxb:=HP.out x (Qe hx);have hx1:¬(x:Int)<0:=by omega
   have hx2:¬(x:Int) > 131072:=by omega
   rcases (HV.out w2 (Wr.of_below hb4)).form with ⟨e1,_⟩|⟨g,off,c,e1,hnc,hcm,hg,hcell⟩
   ·rw[e1]at hx;simp at hx
   ·injection e1 with e1 e2 e3
    subst e1 e3;clear e2;have cx:w2.cell? ⟨g,off+k,none⟩=some (I Z x):=hcell k x hx;clear hcell hx;go_wp2_with fail;go_round
    case rel=>exact⟨k+1,by simp,by omega⟩
    case measure=>simp[intOf];omega
  ·obtain rfl:k=n:=by omega
   clear hlt;go_wp2_with fail;go_loopw [45](fun ix wr=>∃ (j:Nat)(f':Nat->Nat),ix=I Z j/\j<=k/\BB wr a wd L f'/\Wr wd w wr/\Bj f' p { ob with Bc:=ps.take j++ob.Bc.drop j }/\Else f f' p ob.size)(fun ix _=>k-(intOf ix).toNat)
   case atStart=>exact⟨0,f,rfl,by omega,HW.out.below hb4,Wr.of_below hb4,by simpa using HO.out,fun _ _=>rfl⟩
   case round =>
    obtain⟨j,f',rfl,hjk,hW,hR,hO,hE⟩:=hrel;clear hb4 hkn;by_cases hlt:j<k
    ·have hjI:(j:Int)<(k:Int):=by omega
     have hj8:(j:Int)<8:=by omega
     obtain⟨x,hx⟩:∃ x,ps[j]?=some x:=⟨_,Qb (by rw[<-HN.out];omega)⟩
     have hxb:=HP.out x (Qe hx);have hts:=px ps ob.Bc j x hx (by rw[hlp];omega)
     have hok:Ob.ok { ob with Bc:=ps.take j++ob.Bc.drop j }:=⟨HK.out.AQ,by show (ps.take j++ob.Bc.drop j).length=_;rw[Qd,Qp,List.length_drop,HK.out.lp,<-HN.out];show _=ob.AQ.p;omega,HK.out.ln,fun z hz=>by
      rcases Qs.1 hz with hz|hz
      ·exact HP.out z (List.mem_of_mem_take hz)
      ·exact HK.out.ptr z (List.mem_of_mem_drop hz),HK.out.num,HK.out.Cw,HK.out.sec⟩
     have yR:=Qa (yk hW hO hok HL.out j x (show j<ob.AQ.p by omega) hxb p j x rfl rfl rfl)
     have hO2:=hO.Bm hok j x (show j<ob.AQ.p by omega)
     have Aep:Bj (upd f' (p+3+j) x) p { ob with Bc:=ps.take (j+1)++ob.Bc.drop (j+1) }:=by rw[<-hts];exact hO2
     have hE2:Else f (upd f' (p+3+j) x) p ob.size:=fun i hi=>by
      rw[upd_ne _ _ _ _ (by unfold Ob.size at hi;omega)];exact hE i hi
     have HOE:=Qa (And.intro Aep hE2);rcases (HV.out wr hR).form with ⟨e1,_⟩|⟨g,off,c,e1,hnc,hcm,hg,hcell⟩
     ·rw[e1]at hx;simp at hx
     ·injection e1 with e1 e2 e3
      subst e1 e3;clear e2;have cx:wr.cell? ⟨g,off+j,none⟩=some (I Z x):=hcell j x hx;have HRR:=Qa hR;clear hcell hx hts hok hO2 Aep hE2 hO hE hW hR;go_wp2_with fail;refine yR.out.mono ?_;rintro e w5 ⟨rfl,hT5⟩;go_wp2_with fail;go_roundw
      case rel=>exact⟨j+1,_,by simp,by omega,hT5.1,HRR.out.trans hT5.2,HOE.out.1,HOE.out.2⟩
      case measure=>simp[intOf];omega
    ·obtain rfl:j=k:=by omega
     go_wp2_with fail;go_ret;exact⟨rfl,f',hW,hR,by rw[<-HFin.out];exact hO,hE⟩
end
section
variable {w w' : Aa} {o : Own} {l : A7} {H : Hp} {vc vo vw vf : Ac} {f : Nat -> Nat}
def AA.DG (h:AA w o l H vc vo vw vf f)(hu:H.use=false):Al w l.h #[Ag (some ⟨l.a,0,none⟩),I Z 1,I Z H.size,I Z H.top,I Z (1+(H.size:Int)),I Z H.size,I Z H.Bv,vc,vo,I Z 0,.bool H.AD,I Z H.Bh,I Z H.scan,I Z H.Aw,vw,vf] 185:=h.Em hu
def AA.DJ (h:AA w o l H vc vo vw vf f)(hu:H.use=true):Al w l.h #[Ag (some ⟨l.a,0,none⟩),I Z 1,I Z H.size,I Z H.Bv,I Z (1+(H.size:Int)),I Z H.size,I Z H.top,vo,vc,I Z 1,.bool H.AD,I Z H.Bh,I Z H.scan,I Z H.Aw,vw,vf] 185:=by
 have hb:=h.hb;unfold Hp.cells at hb;rw[hu,if_pos rfl]at hb;exact hb
def AA.NR (h:AA w o l H vc vo vw vf f) (hk:H.ok) {p:Nat} {ob dK:Ob} (hp:lk H.cur p=some ob) {f':Nat->Nat} (hW:BB w' l.a l.wd (2*H.size+1) f') (hR:Wr l.wd w w') (hE:Else f f' p ob.size) (ho:Bj f' p dK) :
  AA w' o l { H with cur:=up H.cur p dK } vc vo vw vf f':=by
 have hm:=kj hp;have iN:=h.oh;have how:=h.ow;have hne:∀ {c:Nat} {i:Nat},o c=(l.id,i)->i≠2->c≠l.wd:=fun hc hi e=>by
  rw[e,how]at hc;injection hc with _ hc;exact hi hc.symm
 have hrow:∀ {i:Nat} {v:Ac} {n:Nat} {xs:List Ac},i≠2->Row w o (l.id,i) 3 1 v n xs->Row w' o (l.id,i) 3 1 v n xs:=fun hi hr=>by
  refine hr.Ao (T:=fun t=>t=(l.id,2)) (o':=o) (Stp.BE hR how) ?_;intro e;injection e with _ e;exact hi e
 have hlen:(up H.cur p dK).length=H.cur.length:=by simp[up]
 have hmap:((up H.cur p dK).map fun x=>nv x.1)=H.cur.map fun x=>nv x.1:=by
  have:=congrArg (List.map nv) (qmu H.cur p dK);simpa [List.map_map,Function.comp_def] using this
 refine⟨h.hb.wr hR (hne iN (by omega)),hW,?_,hrow (by split<;>omega) h.ro,hrow (by omega) h.rw,hrow (by omega) h.rf,h.oh,h.oa,h.ow,?_,?_⟩
 ·show Row w' o (l.id,if H.use then 4 else 3) _ 1 vc (up H.cur p dK).length _
  rw[hlen,hmap];exact hrow (by split<;>omega) h.rc
 ·intro x hx
  obtain⟨y,hy,rfl⟩:=Qt.1 hx;split
  ·exact ho
  ·rename_i e
   refine (h.E0 y hy).of_eq (hk.ck y hy) fun j h1 h2=>hE j ?_;have h3:=fe _ _ _ hk.cl hk.ck y hy (p,ob) hm e;have h4:=kg _ (Ob.AU (hk.ck y hy)).2;have h5:=kg _ (Ob.AU (hk.ck _ hm)).2;simp only at h3 h5;omega
 ·intro x hx
  have h3:=Hp.apart hk hm hx;have h4:x.2.1.ok:=hk.ok (x.1,x.2.1) (Qt.2 ⟨x,hx,rfl⟩);have h5:=Ob.AU h4;obtain⟨g1,g2⟩:=h.BP x hx;simp only at h3;refine⟨fun e=>(g1 e).of_eq h4 fun j h1 h2=>hE j (by omega),fun q e=>?_⟩
  rw[hE x.1 (by omega)];exact g2 q e
def AA.FE (h:AA w o l H vc vo vw vf f){H':Hp}{w':Aa}(hb:Al w' l.h (H'.cells l.a vc vo vw vf) 185)(hs:Stp (fun t=>t=(l.id,0)) o o w w')
  (e1:H'.size=H.size)(e2:H'.use=H.use)(e3:H'.cur=H.cur)(e4:H'.old=H.old)(e5:H'.Az=H.Az)(e6:H'.final=H.final):AA w' o l H' vc vo vw vf f:=by
 have hn:∀ j,j≠0->¬(l.id,j)=(l.id,0):=fun j hj e=>hj (by simpa using e)
 exact⟨hb,by rw[e1];exact h.B6.Ao hs (by rw[h.oa];exact hn _ (by omega)) (by rw[h.ow];exact hn _ (by omega)),by rw[e2,e3];exact h.rc.Ao hs (hn _ (by split<;>omega)),by rw[e2,e4];exact h.ro.Ao hs (hn _ (by split<;>omega)),
  by rw[e5];exact h.rw.Ao hs (hn _ (by omega)),by rw[e6];exact h.rf.Ao hs (hn _ (by omega)),h.oh,h.oa,h.ow,by rw[e3];exact h.E0,by rw[e4];exact h.BP⟩
def qjz (H:Hp)(a:Nat)(vc vo vw vf:Ac)(n:Nat):(H.cells a vc vo vw vf).setIfInBounds 12 (I Z n)={ H with scan:=n }.cells a vc vo vw vf:=by
 unfold Hp.cells;cases H.use<;>rfl
def po (h:AA w o l H vc vo vw vf f):Ab Tryz.prog 193 #[Ag (some ⟨l.h,0,none⟩)] w fun e w'=>e=O (.bool (decide (H.scan=H.top)))/\Ae w.1.size w w':=by
 have hd:decide (H.scan=H.top)=((H.scan:Int)==(H.top:Int)):=by
  rw[Bool.eq_iff_iff];simp only[decide_eq_true_eq,beq_iff_eq];omega
 rw[hd];rcases (show H.use=false\/H.use=true by cases H.use<;>simp) with hu|hu
 ·have c:=(h.DG hu).cell
  clear h hd hu;go_enter func193,ntmps193;go_upto_region 1 with fail;go_quiet (fail);go_wp2_with fail;go_ret;exact⟨rfl,qx (qd w) _⟩
 ·have c:=(h.DJ hu).cell
  clear h hd hu;go_enter func193,ntmps193;go_upto_region 1 with fail;go_quiet (fail);go_wp2_with fail;go_ret;exact⟨rfl,qx (qd w) _⟩
end
end
section
open Go.RowKit Hp
def Hp.fresh (n:Nat):Hp:=⟨n,false,[],1,false,[],1+n,0,0,0,[],[]⟩
def Hp.Hv {n:Nat}(h1:16<=n)(h2:n<=16384):(Hp.fresh n).wf:=by
 refine⟨⟨⟨h1,h2⟩,rfl,fun x hx=>(by cases hx),rfl,fun x hx=>(by cases hx),?_,fun _=>rfl,rfl,?_,?_,?_,fun x hx=>(by cases hx)⟩,Qk _,Qk _,fun h=>(by cases h),fun x hx=>(by cases hx),fun x hx=>(by cases hx)⟩
 ·show 1+n<=Hp.base _ _+n
  unfold Hp.base Hp.fresh;simp
 ·show 1+0<=Hp.base _ _+n
  unfold Hp.base Hp.fresh;simp
 ·show 0<=_
  exact Nat.zero_le _
 ·show 0<=_
  exact Nat.zero_le _
def H5 (n:Nat)(h1:16<=n)(h2:n<=16384)(o:Own)(id:Nat)(w:Aa) :
  Ab Tryz.prog 101 #[I Z n] w fun e w'=>∃ h a wd o',e=O (Aj #[Ag (some ⟨h,0,none⟩),I Z 0]) /\
   AA w' o' ⟨id,h,a,wd⟩ (Hp.fresh n) (Ah none 0 0) (Ah none 0 0) (Ah none 0 0) (Ah none 0 0) (fun _=>0)/\Stp (fun _=>False) o o' w w'/\w.1.size<=h/\(∀ b,w.1.size<=b->(o' b).1=id):=by
 have HA:=Qa (fun w=>PC (2*n+1) (by omega) (by omega) _ rfl w)
 have uH:=Qa (fun w=>YM 1 n (by omega) (by omega) 1 n rfl rfl w)
 have eH:=Qa (fun w=>YM (1+n) n (by omega) (by omega) (1+n) n (by omega) rfl w)
 have e1:((2*n+1:Nat):Int)=2*(n:Int)+1:=by omega
 rw[e1]at HA;clear e1;go_enter func101,ntmps101;go_wp2_with fail;refine (HA.out _).mono ?_
 rintro e w1 ⟨a,wd,rfl,hW,ha,hwd,hb1⟩
 go_wp2_with fail;refine (uH.out _).mono ?_
 rintro e w2 ⟨rfl,hb2⟩
 have lH:=qe hb1 hb2;have hW2:=hW.below hb2;clear hb2 hb1 hW;go_wp2_with fail;refine (eH.out _).mono ?_
 rintro e w3 ⟨rfl,hb3⟩
 have jA:=(Al.new w2 #[I Z 1,I Z n,I Z 1] 181).below hb3 (by simp)
 have hW3:=hW2.below (qe (qc (qd w2) _) hb3);have Aez:=qe lH (qe (qc (qd w2) (.cells #[I Z 1,I Z n,I Z 1] 181)) hb3);clear hW2 lH hb3;have cA:=jA.cell;have sA:=jA.lt;go_wp2_with fail;go_ret2;have hle:w.1.size<=w3.1.size:=Aez.size;have la:=hW3.BM.lt;have lwd:=hW3.lt;have AGn:=hW3.ne;refine⟨w3.1.size+1,a,wd,fun b=>if b<w.1.size then o b else if b=w3.1.size+1 then (id,0) else if b=a then (id,1) else if b=wd then (id,2) else (id,9),rfl,?_,?_,by omega,?_⟩
 ·refine⟨?_,(hW3.below (qc (qc (qd w3) _) _)),Row.nil _ _ _ _ _,Row.nil _ _ _ _ _,Row.nil _ _ _ _ _,Row.nil _ _ _ _ _,?_,?_,?_,fun x hx=>(by cases hx),fun x hx=>(by cases hx)⟩
  ·refine Al.Ap _ _ _ _ _ (by simp) ?_
   unfold Hp.cells Hp.fresh;simp
  ·show (if w3.1.size+1<w.1.size then _ else _)=_
   rw[if_neg (by omega),if_pos rfl]
  ·show (if a<w.1.size then _ else if a=w3.1.size+1 then _ else _)=_
   rw[if_neg (by omega),if_neg (by omega),if_pos rfl]
  ·show (if wd<w.1.size then _ else if wd=w3.1.size+1 then _ else if wd=a then _ else _)=_
   rw[if_neg (by omega),if_neg (by omega),if_neg (by omega),if_pos rfl]
 ·have hB:=qc (qc Aez (.cells #[I Z (1+(n:Int)),I Z n,I Z (1+(n:Int))] 181)) (.cells #[Ag (some ⟨a,0,none⟩),I Z 1,I Z n,I Z 1,I Z (1+(n:Int)),I Z n,I Z (1+(n:Int)),Ah none 0 0,Ah none 0 0,I Z 0,.bool false,I Z 0,I Z 0,I Z 0,Ah none 0 0,Ah none 0 0] 185)
  exact⟨hB.os,hB.tape,hB.output,hB.size,fun b hb=>if_pos hb,fun b hb _=>hB.block b hb⟩
 ·intro b hb
  show (if _ then _ else _:Tag).1=_;rw[if_neg (by omega)]
  repeat' split
  all_goals rfl
