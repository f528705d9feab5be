import Derived.Test.YteehgedabdchcaaGreatKap
import Derived.Test.YteehgedabdchcaaGreatKbi
set_option linter.all false
set_option maxRecDepth 1000000
set_option maxHeartbeats 16000000
open Go renaming World->Aa,Calls->Ab,Value->Ac
open Go.RowKit renaming Below->Ae
open Go.Value renaming int->I,slice->Ah,tuple->Aj
open Go.IntKind renaming i64->Z
open Go.Ending renaming returned->O
namespace Go.Proofs.YteehgedabdchcaaGreat
section
open Go.RowKit Hp
attribute [local go_sem ↓] Go.wp_at_zero Go.wp_at_succ
section
variable {w w' : Aa} {o o' : Own} {y : A3} {S : Al} {i : Nat}
theorem XO (h0:Ap w o y S)(hk:S.ok){v:Ac}{ps:List Nat}{ta:Tag}(hv:Row w o ta 3 1 v ps.length (ps.map nv))(hp:ps.length<=100000)(hp1:1<=ps.length)(hm:S.may ps=true) :
  Ab Tryz.prog 18 #[ptr y.sb,v] w fun e w'=>∃ v' o',e=O (Aj #[v',.bool true])/\Ap w' o' y ((S.begun ps).at' (S.begun ps).H.now)/\Row w' o' (y.l.id+1,0) 3 1 v' ps.length ((ps.map (S.begun ps).H.now).map nv)/\Stp (qh y) o o' w w':=by
 have hph:S.ph=0:=PU hm;have hall:ps.all (yr S.H)=true:=by unfold Al.may at hm;simp only[Bool.and_eq_true]at hm;exact hm.2
 have hmv:S.H.AF=false:=hk.ph.2.1 hph;obtain⟨NN,hNN⟩:=UP o w.heap.size;have hNid:y.l.id<NN:=by have:=hNN _ h0.lt;rw[h0.os]at this;exact this
 have h:=h0;have HL:=Qa (uk h.G0 hk.ph.1);rw[show decide (S.ph≠0)=false from by rw[hph];rfl]at HL
 have HH:=Qa (fun (w2:Aa)(hb:Ae w.heap.size w w2)(p:Nat)=>Pu (h.below hb) hk p)
 obtain⟨vq,vl,vm,jb,_⟩:=h.AU;unfold qk at jb;obtain⟨pv,cv,rfl⟩:=hv.AY;have HV:=Qa hv;have HJ:=Qa jb;have HAll:=Qa hall;have HP0:=Qa (fun (w2:Aa)(hb:Ae w.heap.size w w2)=>VY (h.below hb) hk (hv.below hb) hp)
 have HST:=Qa (fun (W w3:Aa)(hW:Ae w.heap.size w W)(hb3:Ae W.heap.size W w3)(v3:Ac)(hr3:Row w3 (fo W.heap.size) (1,0) 3 1 v3 (S.places ps).length ((S.places ps).map nv)) =>
  show Ab Tryz.prog 62 #[ptr y.cy,v3] w3 fun e w4=>∃ v4 o4,e=O (Aj #[v4,.bool true])/\Ap w4 o4 y (S.begun ps)/\Row w4 o4 (NN,1) 3 1 v4 (S.places ps).length (((S.places ps).map (S.begun ps).H.now).map nv)/\Stp (qh y) o o4 w w4 from by
   have hS3:Ap w3 (ext o W.heap.size (NN,0)) y S:=((h.below hW).retag fun b hb=>qj hb).below hb3
   have hpl:=UN hk ps;have hn2:=hk.Kk;refine (Ws hS3.hp hk.H hmv (by have:=hS3.cy;rw[hph]at this;exact this) hS3.oy (hr3.out o (NN,0)) (by omega) (NN,1) (fun e=>by have:=e.1;simp only at this;omega) (fun e=>by have:=e.1;simp only at this;omega) (by simp)).mono ?_
   rintro e w4 ⟨v4,o4,rfl,hH4,hc4,hr4,hs4⟩
   have s3:Stp (fun _=>False) o (ext o W.heap.size (NN,0)) w w3:=(Stp.of_below (qd hW hb3)).ext _ _ hW.size
   have hS4:Ap w4 o4 y { S with H:=(S.H.flip.As (S.places ps)).1,ph:=1 }:=hS3.ER hH4 hc4 hs4 fun j hj e=>by
    rcases e with e|e
    ·have:=e.2;simp only at this;omega
    ·have:=congrArg Prod.fst e;simp only at this;omega
   refine⟨v4,o4,rfl,hS4,?_,((s3.mono fun _ h=>h.elim).trans hs4).shrink fun b hb e=>?_⟩
   ·have e:(S.H.flip.As (S.places ps)).2=(S.places ps).map (S.begun ps).H.now:=Uh (S.places ps) S.H.flip
    rw[<-e];exact hr4
   ·rcases e with e|e
    ·exact e.1
    ·exfalso;have:=hNN b hb;rw[e]at this;exact Nat.lt_irrefl _ this)
 obtain⟨n,hn⟩:∃ n,n=ps.length:=⟨_,rfl⟩;rw[<-hn]at HV HP0;have HN:=Qa hn;have HK:=Qa hk;have HOK:=Qa (Al.D8 hk hph ps);have HNid:=Qa hNid;obtain⟨H,hHe⟩:∃ H,H=S.H:=⟨_,rfl⟩;rw[<-hHe]at HH HAll;have c':=jb.cell;have hn1:n<=100000:=by omega
 have hn2:1<=n:=by omega
 rw[<-hn];generalize S.next=N at *;generalize S.Av=N1 at *;generalize S.version=N2 at *;clear h h0 hk hph hv hp hp1 hm hall hmv hNN jb hHe hn hNid;go_enter Tryz.func18,Tryz.ntmps18;go_wp2_with fail;refine HL.out.mono ?_
 rintro e w1 ⟨rfl,rfl⟩
 go_wp2_with fail;clear c';go_loopw [25] (fun ix wr=>∃ k:Nat,ix=I Z k/\k<=n/\Ae w.heap.size w wr) (fun ix _=>n-(intOf ix).toNat)
 case atStart=>exact⟨0,rfl,Nat.zero_le _,qc w⟩
 case round =>
  obtain⟨k,rfl,hkn,hb⟩:=hrel;obtain⟨wo,rfl⟩:∃ wo:Aa,wo=wr:=⟨_,rfl⟩;have jo:=HJ.out.below hb HJ.out.lt;have c':=jo.cell;by_cases hlt:k<n
  ·have hkI:(k:Int)<(n:Int):=by omega
   obtain⟨x,hx⟩:∃ x,ps[k]?=some x:=⟨_,Qb (by rw[<-HN.out];exact hlt)⟩
   obtain⟨g,cap,e,hcell⟩:∃ g cap,Value.slice pv n cv=Ah (some ⟨g,0,none⟩) n cap/\wo.cell? ⟨g,k,none⟩=some (I Z x):=by
    rcases (HV.out.below hb).form with ⟨_,h0⟩|⟨g,cap,e,_⟩
    ·omega
    ·injection e with e1 _ e3
     subst e1 e3;exact⟨g,cv,rfl,(HV.out.below hb).cells k _ (by rw[Qj,hx];rfl)⟩
   injection e with e1 _ e3;subst e1 e3;have hro:=List.all_eq_true.1 HAll.out x (Qe hx);have HC:=Qa (HH.out wo hb x);obtain⟨hw1,hw2⟩:=qw k (by omega)
   by_cases hx0:x=0
   ·subst hx0
    have hxb:(((0:Nat):Int) != 0)=false:=rfl;clear hx hro jo;go_wp2_with fail;go_roundw
    case rel=>exact⟨k+1,by simp,by omega,hb⟩
    case measure=>simp[intOf];omega
   ·have hxb:((x:Int) != 0)=true:=by rw[bne_iff_ne];omega
    have hs:(lk H.cur x).isSome=true:=by unfold yr at hro;rw[decide_eq_false hx0,Bool.false_or]at hro;exact hro
    rw[hs]at HC;clear hx hro hs hx0 jo;go_wp2_with fail;refine HC.out.mono ?_
    rintro e w3 ⟨rfl,hb3⟩
    go_wp2_with fail;go_roundw
    case rel=>exact⟨k+1,by simp,by omega,qd hb hb3⟩
    case measure=>simp[intOf];omega
  ·obtain rfl:k=n:=by omega
   have HB:=Qa hb;have HPl:=Qa (HP0.out wo.drew (qe hb));have cb:wo.cell? ⟨y.sb,1,none⟩=some (ptr y.cy):=jo.cell 1;clear hb hlt c' hkn;go_upto_region 9 with fail
   go_region_held3 (fun w'=>w'.cell? ⟨y.sb,1,none⟩=some (ptr y.cy)) (first|with_reducible assumption|go_keep) (first
    | (go_at_call 51;refine HPl.out.mono ?_;rintro e w3 ⟨v3,rfl,hr3,hb3⟩;have cb3:=((qi jo).below hb3 jo.lt).cell 1)
    | (go_at_call 62;refine (HST.out _ _ (qe HB.out) hb3 _ hr3).mono ?_;rintro e w4 ⟨v4,o4,rfl,hS4,hr4,hs4⟩;have cb4:w4.cell? ⟨y.sb,1,none⟩=some (ptr y.cy):=by { obtain⟨_,_,_,j4,_⟩:=hS4.AU;exact j4.cell 1 })
    | fail)
   obtain⟨ms,hms⟩:∃ ms,ms=(S.places ps).map (S.begun ps).H.now:=⟨_,rfl⟩;obtain⟨L,hL⟩:∃ L,L=(S.places ps).length:=⟨_,rfl⟩;have hLm:ms.length=L:=by rw[hms,hL,Qg]
   have hkL:k<=L:=by rw[hL,HN.out];unfold Al.places;simp only[Qd];omega
   rw[<-hms,<-hL]at hr4
   obtain⟨g,cap,rfl,hcap⟩:∃ g cap,v4=Ah (some ⟨g,0,none⟩) L cap/\L<=cap:=by
    rcases hr4.shape with ⟨_,h0⟩|⟨g,cap,e,hc,_⟩
    ·omega
    ·exact⟨g,cap,e,hc⟩
   have hcapm:=hr4.shape;have P4:DJ w4 g 0 ms cap:=by rw[<-hLm]at hr4;exact hr4.VS
   have hgt:o4 g=(NN,1):=hr4.El;have HCl:=Qa (RH (hr4.takeN hkL) (by omega) (fun u hu=>bz ms u (List.mem_of_mem_take hu)) (y.l.id+1,0))
   have HS4:=Qa hS4;have HST4:=Qa hs4;have HMS:=Qa hms;have HLL:=Qa hL;have HLM:=Qa hLm;have HKL:=Qa hkL;have hcL:(L:Int)<=(cap:Int):=by omega
   have hkI:(k:Int)<=(L:Int):=by omega
   have hkc:(k:Int)<=(cap:Int):=by omega
   have hk0:(0:Int)<=(k:Int):=by omega
   have hnx:=HOK.out.qu;have hnx2:=HOK.out.Kk;have hq40:(S.begun ps).queue.length<=1099511627776:=by omega
   obtain⟨q1,hq1,P5⟩:=P4.drop (n:=k) (by rw[hLm];exact hkL)
   simp only[Nat.zero_add]at hq1
   have hlq:(S.begun ps).queue.length<=(ms.drop k).length:=by
    rw[List.length_drop,hLm,hL,HN.out];unfold Al.places;simp only[Qd,Qg];have:(S.begun ps).queue=S.queue:=rfl;rw[this];omega
   have hdl:(ms.drop k).length=L-k:=by rw[List.length_drop,hLm]
   obtain⟨_,_,_,j4,_⟩:=hS4.AU;unfold qk at j4;have c4:=j4.cell;have HPQ:=Qa (fun (w5:Aa)(hb5:Ae w4.heap.size w4 w5)=>X0 ((hS4.retag (o':=ext o4 w4.heap.size (y.l.id+1,0)) fun b hb=>qj hb).below hb5) (P5.below hb5) (by rw[qj P5.lt,hgt];have:=HNid.out;simp only;omega) hlq hq40)
   have HGT:=Qa (show (ext o4 w4.heap.size (y.l.id+1,0)) g=(NN,1) from by rw[qj P5.lt];exact hgt)
   rw[hdl]at HPQ;clear hr4 hms hL hLm hkL hS4 hs4 hcapm jo cb cb3 cb4 hb3 hr3 hnx hnx2 hq40 hlq hdl P4;go_wp2_with fail;refine HCl.out.mono ?_
   rintro e w5 ⟨v5,rfl,hr5,hb5⟩
   obtain⟨p5,c5,rfl⟩:=hr5.AY;obtain⟨q2,pt5,ct5,vl5,vm5,j5,P6,hC5⟩:=HPQ.out w5 hb5;have HC5:=Qa hC5;have HJ5:=Qa j5;unfold qk at j5;have cc5:=j5.cell;clear c4 j4 hC5 HPQ;go_wp2_with fail;refine HC5.out.mono ?_
   rintro e w6 ⟨rfl,hS6,hs6⟩
   obtain⟨S1,hS1⟩:∃ S1,S1=S.begun ps:=⟨_,rfl⟩;obtain⟨f,hf⟩:∃ f,f=(S.begun ps).H.now:=⟨_,rfl⟩
   have hdrop:ms.drop k=(S1.queue.map (·.1)).map f++(E4 S1.Aw 0).map f:=by
    have e:S.places ps=ps++(S1.queue.map (·.1)++E4 S1.Aw 0):=by rw[hS1];unfold Al.places E4;rw[List.drop_zero,List.append_assoc];rfl
    rw[HMS.out,<-hf,e,Qw,List.drop_left' (by rw[Qg];exact HN.out.symm),Qw]
   have hput:ki S1.queue (ms.drop k)=Ew f S1.queue:=by rw[hdrop,tm]
   have hdrop2:(ms.drop k).drop S1.queue.length=(E4 S1.Aw 0).map f:=by rw[hdrop,List.drop_left' (by simp)]
   have hlen0:((E4 S1.Aw 0).map f).length=L-k-S1.queue.length:=by rw[<-hdrop2,List.length_drop,List.length_drop,HLM.out]
   rw[<-hS1]at hS6 P6 HOK;rw[<-hS1];rw[hput,<-Yy]at hS6;rw[hdrop2]at P6;have hgn:¬(fun t=>t=(y.l.id,13)) ((ext o4 w4.heap.size (y.l.id+1,0)) g):=by rw[HGT.out];simp
   have P7:=P6.Ao hs6 hgn;have hr6:=hr5.Ao hs6 (by simp)
   have hs7:Stp (qh y) o (ext o4 w4.heap.size (y.l.id+1,0)) w w6:=(HST4.out.trans ((Stp.of_below hb5).ext _ _ (Qk _))).trans (hs6.mono (by rintro _ rfl;exact rfl))
   obtain⟨gt,ct,hvt,hct,hctn⟩:=hS6.D5 (by rw[tt];exact HOK.out.t1)
   rw[tt]at hvt hct hctn
   have hgtl:gt<w6.heap.size:=by
    have h1:=hS6.Ea;rw[hvt]at h1;exact h1.blt
   obtain⟨_,_,_,j6,_⟩:=hS6.AU;unfold qk at j6;rw[hvt]at j6;have c6:=j6.cell;have h8:=HOK.out.t8;have HS1:=Qa hS1;have HF:=Qa hf;have HR6:=Qa hr6;have HMM:Hid (ms=(S.places ps).map (S.begun ps).H.now):=HMS.out
   have HTH:=Qa (fun (w7:Aa)(o7:Own)(q:Nat)(h7:Ap w7 o7 y (S1.upto f q))(t:Nat)(ht:t<S1.Aw.length)=>show w7.cell? ⟨gt,t,none⟩=some (ptr (y.xb t)) from by
    obtain⟨g',c',e',h',_⟩:=h7.DU t (by rw[tt];exact ht)
    rw[hvt]at e';injection e' with e1;injection e1 with e1;injection e1 with e1;rw[e1];exact h')
   obtain⟨qn,hqn⟩:∃ qn,qn=S1.queue.length:=⟨_,rfl⟩;rw[<-hqn]at hlen0 P7 ⊢;generalize hN8:S1.Aw.length=N8 at *;have HN8:=Qa hN8;have HL0:=Qa hlen0;have HX:=Qa (And.intro hS6 (And.intro P7 hs7));clear hS6 P6 P7 hs6 hs7 hr5 hr6 hb5 HC5 HJ5 j5 cc5 hdrop hput hdrop2 hS1 hf hgn hct hqn hN8 hlen0 HLL;clear P5 hq1;go_wp2_with fail;clear c6 j6;go_loopw [8,72] (fun vv ix wr=>∃ (j:Nat)(oo:Own)(off C:Nat)(R:List Nat),ix=I Z j/\j<=N8/\vv=Ah (some ⟨g,off,none⟩) R.length C/\R=(E4 S1.Aw j).map f/\DJ wr g off R C/\Ap wr oo y (S1.upto f j)/\oo g=(NN,1)/\Row wr oo (y.l.id+1,0) 3 1 (.slice p5 k c5) k ((ms.map nv).take k)/\Stp (qh y) o oo w wr) (fun _ ix _=>N8-(intOf ix).toNat)
   case atStart=>exact⟨0,_,q2,_,_,rfl,Nat.zero_le _,by rw[HL0.out],rfl,HX.out.2.1,HX.out.1,HGT.out,HR6.out,HX.out.2.2⟩
   case round =>
    clear HX HR6 HGT;obtain⟨j,oo,off,C,R,rfl,hjn,rfl,hR,hP,hS,hgo,hrw,hst⟩:=hrel;obtain⟨wi,rfl⟩:∃ wi:Aa,wi=wr:=⟨_,rfl⟩;by_cases hj:j<N8
    ·have hjI:(j:Int)<(N8:Int):=by omega
     have hj':j<S1.Aw.length:=by rw[HN8.out];exact hj
     have hju:j<(S1.upto f j).Aw.length:=by rw[tt];exact hj'
     have ct0:=HTH.out wi oo j hS j hj;have hfit:(S1.t j).log.fit:=HOK.out.Em hj';have hto:=HOK.out;have htx:=hS.Aw j _ (Al.AV hju);rw[J9 S1 f hj']at htx;have hut:=J9 S1 f hj';obtain⟨vr,vk,vh,vu,hl⟩:=htx.log;have HRo:=Qa (TM hl hfit);obtain⟨vt,jx,_⟩:=htx.AU;have hRs:R=(S1.t j).log.roots.map f++(((S1.t j).AX.map (·.1)).map f++(E4 S1.Aw (j+1)).map f):=by rw[hR,F4 hj',Qw,Qw]
     obtain⟨n1,hn1⟩:∃ n1,n1=(S1.t j).log.roots.length:=⟨_,rfl⟩;obtain⟨n2,hn2⟩:∃ n2,n2=(S1.t j).AX.length:=⟨_,rfl⟩;have hRl:R.length=n1+(n2+((E4 S1.Aw (j+1)).map f).length):=by rw[hRs,hn1,hn2];simp only[Qd,Qg]
     have htk:R.take n1=(S1.t j).log.roots.map f:=by rw[hRs,hn1,List.take_left' (by simp)]
     have FL:R.drop n1=((S1.t j).AX.map (·.1)).map f++(E4 S1.Aw (j+1)).map f:=by rw[hRs,hn1,List.drop_left' (by simp)]
     have hdd:(R.drop n1).drop n2=(E4 S1.Aw (j+1)).map f:=by rw[FL,hn2,List.drop_left' (by simp)]
     have hle1:n1<=R.length:=by omega
     have hgid:(oo g).1≠y.l.id:=by rw[hgo];have:=HNid.out;simp only;omega
     have PT:=hP.take hle1;obtain⟨q3,hq3,PD⟩:=hP.drop hle1;have htkl:(R.take n1).length=n1:=by rw[Qp];omega
     have hqj:(S1.t j).AX.length<=1099511627776:=by
      have h1:=RV _ _ _ (Al.AV hj');have h2:=HOK.out.qu;have h3:=HOK.out.Kk;omega
     have HRp:=Qa (fun (w3:Aa)(hb3:Ae wi.heap.size wi w3)=>show Ab Tryz.prog 66 #[ptr (y.lb j),Ah (some ⟨g,off,none⟩) n1 C] w3 fun e w5=>e=O (.bool true) /\
       ∃ q4 pt ct,Am w5 (y.xb j) #[I Z j,.bool (S1.t j).live,I Z (S1.t j).start,I Z (S1.t j).seen,ptr (y.lb j),.slice pt n2 ct] 107 /\
       Ab Tryz.prog 64 #[.slice pt n2 ct,Ah (some ⟨g,q3,none⟩) (R.length-n1) (C-n1)] w5.drew fun e w6=>e=O (Ah (some ⟨g,q4,none⟩) (R.length-n1-n2) (C-n1-n2)) /\
        ∃ o6,DJ w6 g q4 ((E4 S1.Aw (j+1)).map f) (C-n1-n2)/\Ap w6 o6 y (S1.upto f (j+1))/\o6 g=(NN,1)/\Row w6 o6 (y.l.id+1,0) 3 1 (.slice p5 k c5) k ((ms.map nv).take k)/\Stp (qh y) o o6 w w6 from by
      have hr1:=YJ (hS.below hb3) (by rw[hut];exact hfit) hju (PT.below hb3) hgid (by rw[hut,htkl,hn1])
      rw[htkl]at hr1;refine hr1.mono ?_
      rintro e w5 ⟨rfl,o5,hS5,hs5⟩
      rw[hut]at hS5;replace hS5:=hS5.below (qe (qc w5));have hs5':Stp (qh y) oo o5 wi w5.drew:=((Stp.of_below hb3).trans (hs5.mono fun _ h=>h.1)).drew
      have hg5:o5 g=(NN,1):=(hs5'.tags _ hP.lt).trans hgo;have PD5:=PD.Ao hs5' hgid;have h5t:((S1.upto f j).tx j ((S1.t j).Eg (R.take n1))).t j=(S1.t j).Eg (R.take n1):=Al.CO hju _;have h5l:j<((S1.upto f j).tx j ((S1.t j).Eg (R.take n1))).Aw.length:=by rw[Al.Cg];exact hju
      have e2:(((S1.upto f j).tx j ((S1.t j).Eg (R.take n1))).t j).AX.length=n2:=by rw[h5t,hn2];rfl
      have hdl1:(R.drop n1).length=R.length-n1:=by rw[List.length_drop]
      obtain⟨q4,pt,ct,j5,P6,hC⟩:=Xa hS5 h5l PD5 (by rw[hg5];have:=HNid.out;simp only;omega) (by rw[e2,hdl1];omega) (by rw[e2,hn2];exact hqj)
      rw[e2]at j5 P6 hC;rw[hdl1]at hC;rw[h5t]at j5 hC;refine⟨rfl,q4,pt,ct,j5,hC.mono ?_⟩
      rintro e w6 ⟨rfl,hS6,hs6⟩
      have hs6':Stp (qh y) o5 o5 w5.drew w6:=hs6.mono (by rintro _ rfl;exact rfl)
      rw[hdd]at P6
      have e3:(((S1.upto f j).tx j ((S1.t j).Eg (R.take n1))).tx j (((S1.t j).Eg (R.take n1)).Ge (R.drop n1)))=S1.upto f (j+1):=by
       rw[Al.PL,Xw S1 f hj',htk,FL,JZ]
      rw[e3]at hS6;refine⟨rfl,o5,P6.Ao hs6' (by rw[hg5];have:=HNid.out;intro e;have e:NN=y.l.id:=e;omega),hS6,hg5,?_,(hst.trans hs5').trans hs6'⟩
      exact (hrw.Ao hs5' (qm y)).Ao hs6' (qm y))
     have hn1I:(n1:Int)<=(R.length:Int):=by omega
     have hn1C:(n1:Int)<=(C:Int):=by have:=hP.cap;omega
     have hRC:(R.length:Int)<=(C:Int):=by have:=hP.cap;omega
     have hn10:(0:Int)<=(n1:Int):=by omega
     have hw12:=qw j (by omega)
     have HL9:=Qa (show ((E4 S1.Aw (j+1)).map f).length=R.length-n1-n2 from by omega)
     unfold zg at jx;have HJX:=Qa jx;have cx:=jx.cell;rw[<-hn1]at HRo;obtain⟨hw1,hw2⟩:=hw12;generalize R.length=RL at *;clear hfit hto htx hut hl hRs hn1 hn2 hRl htk FL hdd hle1 hgid PT PD htkl hqj hS hP hgo hrw hst hR hju;go_wp2_with fail;refine HRo.out.mono ?_
     rintro e w3 ⟨v3,rfl,hr3,hb3⟩
     obtain⟨p3,c3,rfl⟩:=hr3.AY;have HRp3:=Qa (HRp.out _ (qe hb3));have cx3:=(HJX.out.below hb3 HJX.out.lt).cell;clear hr3 cx HRp HRo ct0;go_upto_region 17 with fail;go_still_tail 7,(by kernel_rfl)
     change wpList _ _ _ _ _ w3.drew;go_wp2_with (first|(go_at_call 66;refine HRp3.out.mono ?_;rintro e w5 ⟨rfl,q4,pt,ct9,j5,hC⟩)|fail)
     have HC9:=Qa hC;have cx5:=j5.cell;clear hC cx3 HRp3;go_upto_region 18 with fail;go_still_tail 7,(by kernel_rfl)
     change wpList _ _ _ _ _ w5.drew;go_wp2_with (first|(go_at_call 64;refine HC9.out.mono ?_;rintro e w6 ⟨rfl,o6,hP6,hS6,hg6,hr6,hs6⟩)|fail)
     have HX6:=Qa (And.intro hP6 (And.intro hS6 (And.intro hg6 (And.intro hr6 hs6))));clear hP6 hS6 hg6 hr6 hs6 HC9 cx5 j5;go_roundw
     case rel=>exact⟨j+1,o6,q4,_,_,by simp,hj,by rw[HL9.out],rfl,HX6.out.1,HX6.out.2.1,HX6.out.2.2.1,HX6.out.2.2.2.1,HX6.out.2.2.2.2⟩
     case measure =>
      clear hw1 hw2 hcL hkI hkc hk0 hn1I hn1C hRC hn10 hn2 h8 hctn hjI hcap;simp[intOf];omega
    ·obtain rfl:j=N8:=by omega
     have hSf:Ap wi oo y ((S.begun ps).at' (S.begun ps).H.now):=by
      rw[<-HN8.out,GU,HS1.out,HF.out]at hS;exact hS
     have hrf:Row wi oo (y.l.id+1,0) 3 1 (.slice p5 k c5) k ((ps.map (S.begun ps).H.now).map nv):=by
      have e:(ms.map nv).take k=(ps.map (S.begun ps).H.now).map nv:=by
       rw[HMM.out];unfold Al.places;rw[Qw,Qw,Qw,Qw,List.append_assoc,List.take_left' (by rw[Qg,Qg];exact HN.out.symm)]
      rw[<-e];exact hrw
     have HX7:=Qa (And.intro hSf (And.intro hrf hst));clear hS hP hgo hrw hst hR hSf hrf;go_wp2_with fail;go_ret2;exact⟨_,oo,rfl,HX7.out⟩
end
end
section
open Go.RowKit Hp
section
variable {w w' : Aa} {o o' : Own} {y : A3} {S : Al}
theorem qfw (h:Ap w o y S)(hk:S.ok){v:Ac}{ps:List Nat}{ta:Tag}(hv:Row w o ta 3 1 v ps.length (ps.map nv))(hp:ps.length<=100000)(hp1:1<=ps.length) :
  Ab Tryz.prog 18 #[ptr y.sb,v] w fun e w'=>∃ v' o',e=O (Aj #[v',.bool (S.AG ps).2.2])/\Ap w' o' y (S.AG ps).1/\Row w' o' (y.l.id+1,0) 3 1 v' (S.AG ps).2.1.length ((S.AG ps).2.1.map nv)/\Stp (qh y) o o' w w':=by
 unfold Al.AG;by_cases hm:S.may ps=true
 ·rw[if_pos hm]
  simp only[Qg];exact XO h hk hv hp hp1 hm
 ·rw[if_neg hm]
  have fin:∀ w',Ae w.heap.size w w'->∃ v' o',Ending.returned (Aj #[Ah none 0 0,.bool false])=O (Aj #[v',.bool false])/\Ap w' o' y S/\Row w' o' (y.l.id+1,0) 3 1 v' ([]:List Nat).length (([]:List Nat).map nv)/\Stp (qh y) o o' w w':=
   fun w' hb=>⟨_,o,rfl,h.below hb,Row.nil _ _ _ _ _,Stp.of_below hb⟩
  by_cases h0:S.ph=0
  ·have hb:ps.all (yr S.H)=false:=by
    cases ha:ps.all (yr S.H) with
    | false=>rfl
    | true =>
     refine absurd ?_ hm;unfold Al.may;rw[decide_eq_true h0,Bool.true_and];exact ha
   refine (YP h hk h0 hv hp hb).mono ?_
   rintro e w'⟨rfl,hb⟩
   exact fin w' hb
  ·obtain⟨pa,cp,rfl⟩:=hv.AY
   refine (WB h hk h0 pa ps.length cp).mono ?_
   rintro e w'⟨rfl,rfl⟩
   exact fin w (qc w)
end
end
end Go.Proofs.YteehgedabdchcaaGreat
