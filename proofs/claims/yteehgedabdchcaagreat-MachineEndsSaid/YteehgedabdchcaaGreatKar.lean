import Derived.Test.YteehgedabdchcaaGreatKam
import Derived.Test.YteehgedabdchcaaGreatKan
import Derived.Test.YteehgedabdchcaaGreatKau
set_option linter.all false
set_option maxRecDepth 1000000
set_option maxHeartbeats 16000000
open Go renaming World->Aa,Calls->Ab,Value->Ac
open Go.RowKit renaming Below->Ae
open Go.Value renaming int->I,pointer->Ag,slice->Ah,tuple->Aj,agg->Ak
open Go.IntKind renaming i64->Z
open Go.Ending renaming returned->O
namespace Go.Proofs.YteehgedabdchcaaGreat
section
open Go.RowKit Hp
theorem qdm (P:Program)(t ty e:TypeId)(i:TypeInfo)(z:Ac)(ht:P.underlying t=some (.slice e))(hi:P.info? e=some i)(hz:i.zero=some z)(w:Aa)(g k n c:Nat)(cur:Array Ac)(hg:w.heap[g]?=some (.cells cur e (0,0)))(hn:0<n)
  (hfit:k+(Builtin.zeroCells z.cells n).size<=cur.size)(h1:∀ v ∈ (Builtin.zeroCells z.cells n).toList,v.oneCell'=true) :
  (Builtin.clear_ #[t] ty #[Ah (some ⟨g,k,none⟩) n c]).run P w=.ok (Aj #[]) (w.setRow g (cur.toList.take k++(Builtin.zeroCells z.cells n).toList++cur.toList.drop (k+(Builtin.zeroCells z.cells n).size)).toArray):=by
 obtain⟨m,rfl⟩:∃ m,n=m+1:=⟨n-1,by omega⟩
 have hst:=run_storeCells_at P g k e (Builtin.zeroCells z.cells (m+1)).toList 0 cur w hg (by simpa using hfit) h1
 simp only[Nat.add_zero,Array.length_toList]at hst;simp[Builtin.clear_,run_underlying ht,zeroValue,typeInfo,hi,hz,hst]
theorem qdr {P:Program}(w:Aa){ops:Array Oper}{op:Oper}{a:Act}{K:Act->Aa->Prop}{Q:Exit->Act->Aa->Prop}{E:Prop}(hgd:op.guard=none)(s x:Operand)(t:TypeId)
  (ho:op.op=.call { callee:=.builtin .append,args:=#[s,x],argTypes:=#[t,t] })(v vs v':Ac)(w':Aa)(hr:(Builtin.append_ #[t,t] op.type #[v,vs]).run P w=.ok v' w')(hs:a.eval s=v)(hx:a.eval x=vs)
  (h:K (a.put op.dst v') w'):if Region.wanted op (yielded ops a.tmps)=true then Oper.wp P op a w K Q else E:=by
 have hw:Region.wanted op (yielded ops a.tmps)=true:=by simp[Region.wanted,hgd]
 rw[if_pos hw];unfold Oper.wp execOp;simp only[ho,resolve,invoke,builtin,Sem.run_bind,Sem.run_pure,Result.andThen_ok,List.map_toArray,List.map_cons,List.map_nil,hs,hx,hr];exact h
theorem S9 {w:Aa}{o:Own}{T:Tag->Prop}{g:Nat}(ht:T (o g))(cs:Array Ac):Stp T o o w (w.setRow g cs):=
 ⟨by simp,by simp,by simp,by simp,fun _ _=>rfl,fun b _ h=>setRow_other _ _ _ _ fun e=>h (by rw[e];exact ht)⟩
theorem Rc:Builtin.zeroCells (Value.agg #[.int .i64 0,.int .i64 0]).cells 1=#[.int .i64 0,.int .i64 0]:=by
 have h:∀ z:Array Ac,z=#[.int .i64 0,.int .i64 0]->Builtin.zeroCells z 1=#[.int .i64 0,.int .i64 0]:=fun z hz=>by
  subst hz;apply Array.ext
  ·simp[Builtin.zeroCells]
  ·intro i h1 h2
   obtain rfl|rfl:i=0\/i=1:=by simp at h2;omega
   ·simp[Builtin.zeroCells]
   ·simp[Builtin.zeroCells]
 exact h _ rfl
theorem Ld {w:Aa}{o:Own}{t:Tag}{v:Ac}{z:Nat×Nat}{l:List (Nat×Nat)}(hr:Row w o t 117 2 v (l.length+1) (qg (z::l)))(hl:l.length<=1099511627776) :
  Ab Tryz.prog 123 #[v,.int .i64 0,.int .i64 1] w fun e w'=>∃ v',e=O v'/\Row w' o t 117 2 v' l.length (qg l)/\Stp (fun u=>u=t) o o w w':=by
 obtain⟨iU,hi,hsI,hyI,hzI⟩:=ut;have hu64:=Tryz.underlying99;rcases hr.own.2 with ⟨_,h0⟩|⟨g,cap,cur,rfl,_,hg,hnc,hcm,hcs,htk⟩
 ·omega
 have hlen:(qg l).length=l.length*2:=by
  have:∀ m:List (Nat×Nat),(qg m).length=m.length*2:=fun m=>by induction m with
   | nil=>rfl
   | cons a m ih=>simp[qg,ih];omega
  exact this l
 have hT:=hr.tag g rfl;have hgl:g<w.heap.size:=(Qf.1 hg).1;have hcells2:∀ j u,(qg l)[j]?=some u->w.cell? ((⟨g,2,none⟩:Addr).add j)=some u:=fun j u hu=>by
  have h1:=hr.own.cells (g:=g) rfl (j+2) u (by simpa [qg] using hu)
  have e1:((⟨g,2,none⟩:Addr).add j)=((⟨g,0,none⟩:Addr).add (j+2)):=by
   unfold Addr.add;split<;>split<;>simp_all<;>omega
  rw[e1];exact h1
 have hq:∃ q,(if cap=1 then (some ⟨g,0,none⟩:Option Addr) else some ⟨g,2,none⟩)=some ⟨g,q,none⟩/\∀ j u,(qg l)[j]?=some u->w.cell? ((⟨g,q,none⟩:Addr).add j)=some u:=by
  by_cases e:cap=1
  ·have hl0:l=[]:=List.eq_nil_of_length_eq_zero (by omega)
   subst hl0;exact⟨0,by rw[if_pos e],fun j u hu=>by simp[qg]at hu⟩
  ·exact⟨2,by rw[if_neg e],hcells2⟩
 obtain⟨q,hq,hcells3⟩:=hq;have hA:=run_append_room (P:=Tryz.prog) w.drew 99 99 117 iU hu64 hi g 0 cap cur hg ⟨g,q,none⟩ l.length (cap-1) (qg l) (by rw[hlen,hsI]) hcells3 (yn l) (by omega) (by rw[hlen,hcs];omega)
 simp only[Nat.zero_mul,Nat.zero_add,List.take_zero,List.nil_append]at hA;obtain⟨c1,hc1⟩:∃ c1,c1=(qg l++cur.toList.drop (qg l).length).toArray:=⟨_,rfl⟩;rw[<-hc1]at hA;have hs1:c1.size=cap*2:=by rw[hc1];simp;omega
 have hg1:(w.drew.setRow g c1).heap[g]?=some (.cells c1 117 (0,0)):=setRow_heap _ _ _ _ _ _ hg;have hC0:=qdm Tryz.prog 99 0 117 iU _ hu64 hi hzI (w.drew.setRow g c1) g (l.length*2) 1 (cap-l.length) c1 hg1 (by omega) (by rw[Rc];show _+2<=_;omega) (by rw[Rc];simp[Value.oneCell'])
 simp only[Rc]at hC0;obtain⟨c2,hc2⟩:∃ c2,c2=(c1.toList.take (l.length*2)++[Value.int .i64 0,.int .i64 0]++c1.toList.drop (l.length*2+2)).toArray:=⟨_,rfl⟩;have hC:(Builtin.clear_ #[99] 0 #[Ah (some ⟨g,l.length*2,none⟩) 1 (cap-l.length)]).run Tryz.prog (w.drew.setRow g c1)=.ok (Aj #[]) ((w.drew.setRow g c1).setRow g c2):=by rw[hc2];exact hC0
 clear hC0;have hs2:c2.size=cap*2:=by rw[hc2];simp;omega
 have hg2:((w.drew.setRow g c1).setRow g c2).heap[g]?=some (.cells c2 117 (0,0)):=setRow_heap _ _ _ _ _ _ hg1;have htk2:c2.toList.take (l.length*2)=qg l:=by
  rw[hc2,hc1];rw[List.append_assoc,List.take_append_of_le_length (by simp;omega),List.take_take,Nat.min_self,List.take_append_of_le_length (by omega),<-hlen,List.take_length]
 have hfin:=Qa (show Row ((w.drew.setRow g c1).setRow g c2) o t 117 2 (Ah (some ⟨g,0,none⟩) l.length cap) l.length (qg l)/\Stp (fun u=>u=t) o o w ((w.drew.setRow g c1).setRow g c2) from
  ⟨⟨⟨hlen,.inr ⟨g,cap,c2,rfl,Nat.zero_le _,hg2,by omega,hcm,hs2,htk2⟩⟩,fun k hk=>by simp[Value.ownBlock]at hk;rw[<-hk];exact hT⟩,
   ((Stp.of_below (qe (qc w))).trans (S9 hT _)).trans (S9 hT _)⟩)
 have i0:(0:Int)<=(l.length:Int)+1:=by omega
 have i1:(1:Int)<=(l.length:Int)+1:=by omega
 have i2:(l.length:Int)+1<=(cap:Int):=by omega
 have i3:((l.length:Int)+1).toNat=l.length+1:=by omega
 have i4:(1:Int)<=(cap:Int):=by omega
 have i5:¬cap=l.length:=by omega
 have i6:(l.length:Int)<=(l.length:Int)+1:=by omega
 clear hr hl hg hnc hcm hcs htk hlen hT hgl hcells2 hcells3 hc1 hs1 hg1 hc2 hs2 hg2 htk2;go_enter Tryz.func123,Tryz.ntmps123;go_upto_region 5 with fail;go_region_law (refine qdr _ (by rfl) _ _ _ (by rfl) _ _ _ _ hA (by rfl) (by rfl) ?_)
 all_goals
  go_wp2_with fail;go_ret;exact⟨_,rfl,hfin.out⟩
end
section
open Go.RowKit Go.Shelf Hp
attribute [local go_sem] Oper.semAt_some
theorem co (b:Nat)(w:Aa) :
  Ab Tryz.prog 128 #[ptr b] w fun e w'=>e=O (.func (.func 191) #[] #[ptr w.heap.size])/\w'=w.alloc (.cells #[ptr b] 105):=by
 have hmf:∀ (fn:Fn)(first cap:Array Ac)(w:Aa),(Instr.makeFunc fn first cap).run Tryz.prog w=.ok (.func fn first cap) w:=fun _ _ _ _=>rfl
 go_enter Tryz.func128,Tryz.ntmps128;go_wp2_with fail;go_ret;exact⟨rfl,rfl⟩
structure PlJ (l bL b:Nat)(R:Loop)(mr mu:Nat)(vr vk vh vu:Ac)(us:List Un)(bA:Nat)(wr:Aa):Prop where
 jA:Am wr bA #[vr,vk] 25
 jL:Am wr bL #[ptr b] 105
 jB:Am wr b #[.int .i64 mr,.int .i64 mu,vr,vk,vh,vu] 219
 hl:wr.heap[l]?=some (.loop R)
 kd:∀ (j:Nat) u,us[j]?=some u->wr.cell? ⟨kn vu,j*4,none⟩=some (nv u.kind)
theorem da {l bL b mr mu:Nat} {R:Loop} {vr vk vh vu:Ac} {L:Lg} {W1:Aa} {Post:Ending->Aa->Prop} (J:Nat->Nat->Aa->Prop)
  (hRs:R.params.size=1) (n1:L.reads.length<=200) (n2:L.keeps.length<=200) (n3:L.holds.length<=200) (n4:L.Au.length<=200)
  (fr:∃ a c,vr=.slice a L.reads.length c/\(0<L.reads.length->a=some ⟨kn vr,0,none⟩)) (fk:∃ a c,vk=.slice a L.keeps.length c/\(0<L.keeps.length->a=some ⟨kn vk,0,none⟩))
  (fh:∃ a c,vh=.slice a L.holds.length c/\(0<L.holds.length->a=some ⟨kn vh,0,none⟩)) (fu:∃ a c,vu=.slice a L.Au.length c/\(0<L.Au.length->a=some ⟨kn vu,0,none⟩))
  (jL:Am W1 bL #[ptr b] 105) (jB:Am W1 b #[.int .i64 mr,.int .i64 mu,vr,vk,vh,vu] 219)
  (hJ0:∀ W2 bA,Ae W1.heap.size W1 W2->W1.heap.size<=bA->Am W2 bA #[vr,vk] 25->J bA 0 W2)
  (hJ:∀ bA m wr,J bA m wr->PlJ l bL b R mr mu vr vk vh vu L.Au bA wr)
  (hround:∀ bA m wr a T,J bA m wr->(ww vr vk vh vu L)[m]?=some a->T=(R.params.zip #[Ag (some a)]).foldl (fun tmps (t,a)=>tmps.setIfInBounds t a) R.tmps ->
   RoundIn Fence.wide 1 Tryz.prog l R.fn T R.assign R.body wr fun e W'=>e=O (.bool true)/\J bA (m+1) W')
  (hPost:∀ bA wr,J bA (ww vr vk vh vu L).length wr->Post (O (Aj #[])) wr) :
  CallsIn Fence.wide 2 Tryz.prog 191 #[.func (.yield l) #[] #[],ptr bL] W1 Post:=by
 obtain⟨ar,cr,rfl,far⟩:=fr;obtain⟨ak,ck,rfl,fak⟩:=fk;obtain⟨gh,hgh⟩:∃ gh,gh=kn vh:=⟨_,rfl⟩;obtain⟨gu,hgu⟩:∃ gu,gu=kn vu:=⟨_,rfl⟩;rw[<-hgh]at fh;rw[<-hgu]at fu;have HGh:=Qa hgh;have HGu:=Qa hgu;clear hgh hgu;obtain⟨ah,ch,rfl,fah⟩:=fh;obtain⟨au,cu,rfl,fau⟩:=fu;have HJ0:=Qa hJ0;have HJ:=Qa hJ;have HR:=Qa hround;have HP:=Qa hPost;have HRs:=Qa hRs;have hyi:=Qa (fun (wr:Aa) (a:Addr) (hl:wr.heap[l]?=some (.loop R))=>run_yield (P:=Tryz.prog) (args:=#[Ag (some a)]) hl (by rw[hRs];rfl))
 have cL:=jL.cell;have cB:=jB.cell;have HF:=Qa (And.intro far (And.intro fak (And.intro fah fau)));clear hJ0 hJ hround hPost hRs far fak fah fau;refine callsIn_of_wp Tryz.func191 rfl trivial ?_ rfl;simp only[Tryz.ntmps191,List.size_toArray,Qv,List.length_nil,Nat.reduceAdd,Nat.reduceSub,Array.replicate_succ,Array.replicate_zero,List.push_toArray,List.append_toArray,List.nil_append,List.cons_append];gi_wp2;gi_region;gi_wp2;obtain⟨W2,hW2⟩:∃ W2,W2=(W1.alloc (.cells #[.slice ar L.reads.length cr,.slice ak L.keeps.length ck] 25)).drew:=⟨_,rfl⟩;obtain⟨bA,hbA⟩:∃ bA,bA=W1.heap.size:=⟨_,rfl⟩;rw[<-hW2,<-hbA];have hst:=HJ0.out W2 bA (by rw[hW2];exact qe (qa (qc _) _)) (by omega) (by rw[hW2,hbA];exact qi (Am.new W1 _ _))
 clear hW2 hbA cL cB jL jB HJ0;gi_loopw [21] (fun ix wr=>∃ (t:Nat),ix=.int .i64 t/\t<=2/\J bA (if t=0 then 0 else if t=1 then L.reads.length else L.reads.length+L.keeps.length) wr) (fun ix _=>2-(intOf ix).toNat)
 case atStart=>exact⟨0,rfl,by omega,hst⟩
 case round =>
  clear hst;obtain⟨t,rfl,ht,hA⟩:=hrel;obtain⟨wo,rfl⟩:∃ wo:Aa,wo=wr:=⟨_,rfl⟩;have hP:=HJ.out _ _ _ hA;have cA:=hP.jA.cell;by_cases hlt:t<2
  ·have h2I:(t:Int)<2:=by omega
   obtain⟨v,a,n,c,g,base,hv,hbase,hn,hg,had⟩:∃ (v:Ac) (a:Option Addr) (n c g base:Nat),v=.slice a n c/\base=(if t=0 then 0 else L.reads.length)/\n<=200/\(0<n->a=some ⟨g,0,none⟩) /\
     (wo.cell? ⟨bA,t,none⟩=some v/\base+n=(if t=0 then L.reads.length else L.reads.length+L.keeps.length)/\∀ j,j<n->(ww (.slice ar L.reads.length cr) (.slice ak L.keeps.length ck) (.slice ah L.holds.length ch) (.slice au L.Au.length cu) L)[base+j]?=some ⟨g,j,none⟩):=by
    obtain rfl|rfl:t=0\/t=1:=by omega
    ·refine⟨_,ar,L.reads.length,cr,_,0,rfl,rfl,n1,HF.out.1,cA 0,by simp,fun j hj=>?_⟩
     rw[Nat.zero_add];exact KR _ _ _ _ _ hj
    ·refine⟨_,ak,L.keeps.length,ck,_,L.reads.length,rfl,rfl,n2,HF.out.2.1,cA 1,by simp,fun j hj=>?_⟩
     exact L6 _ _ _ _ _ hj
   subst hv;obtain⟨ct,hbn,had⟩:=had;have hA':J bA base wo:=by
    rw[hbase];obtain rfl|rfl:t=0\/t=1:=by omega
    ·exact hA
    ·exact hA
   have HAD:=Qa had;have HG:=Qa hg;have HBN:=Qa hbn;clear had hg hbn hA cA hP hbase;gi_wp2;gi_loopw [27] (fun ix wr=>∃ (j:Nat),ix=.int .i64 j/\j<=n/\J bA (base+j) wr) (fun ix _=>n-(intOf ix).toNat)
   case atStart=>exact⟨0,rfl,by omega,hA'⟩
   case round =>
    clear hA' ct;obtain⟨j,rfl,hj,hA⟩:=hrel;obtain⟨wo,rfl⟩:∃ wo:Aa,wo=wr:=⟨_,rfl⟩;by_cases hjn:j<n
    ·have hjI:(j:Int)<(n:Int):=by omega
     have hg2:=HG.out (by omega)
     subst hg2;have hl:=(HJ.out _ _ _ hA).hl;have hy:=hyi.out wo ⟨g,j,none⟩ hl;obtain⟨T,hT⟩:∃ T,T=(R.params.zip #[Ag (some ⟨g,j,none⟩)]).foldl (fun tmps (t,a)=>tmps.setIfInBounds t a) R.tmps:=⟨_,rfl⟩
     rw[<-hT]at hy;have hRd:=HR.out bA (base+j) wo ⟨g,j,none⟩ T hA (HAD.out j hjn) hT;clear hl hA hT;gi_wp2;refine hRd.mono ?_
     rintro e w3 ⟨rfl,hA3⟩
     clear hy hRd;gi_wp2;go_roundw
     case rel=>exact⟨j+1,by simp,by omega,hA3⟩
     case measure=>simp[intOf];omega
    ·obtain rfl:j=n:=by omega
     gi_wp2;go_roundw
     case rel=>exact⟨t+1,by simp,by omega,by rw[HBN.out]at hA;obtain rfl|rfl:t=0\/t=1:=(by omega)<;>exact hA⟩
     case measure=>simp[intOf];omega
  ·obtain rfl:t=2:=by omega
   rw[show ((2:Nat):Int)=2 from rfl];simp only[Nat.reduceEqDiff,if_false]at hA;obtain⟨nh,hnh⟩:∃ nh,nh=L.holds.length:=⟨_,rfl⟩;have cL:=hP.jL.cell;have cB:=hP.jB.cell;clear hlt cA hP;gi_wp2;gi_loopw [43] (fun ix wr=>∃ (j:Nat),ix=.int .i64 j/\j<=L.holds.length/\J bA (L.reads.length+L.keeps.length+j) wr) (fun ix _=>L.holds.length-(intOf ix).toNat)
   case atStart=>exact⟨0,rfl,by omega,hA⟩
   case round =>
    clear hA cL cB;obtain⟨j,rfl,hj,hA⟩:=hrel;obtain⟨wo,rfl⟩:∃ wo:Aa,wo=wr:=⟨_,rfl⟩;have hP:=HJ.out _ _ _ hA;have cL:=hP.jL.cell;have cB:=hP.jB.cell;by_cases hjn:j<L.holds.length
    ·have hjI:(j:Int)<(L.holds.length:Int):=by omega
     have hg2:=HF.out.2.2.1 (by omega)
     have hl:=hP.hl;have had:=KQ (.slice ar L.reads.length cr) (.slice ak L.keeps.length ck) (.slice ah L.holds.length ch) (.slice au L.Au.length cu) L hjn;rw[<-HGh.out]at had;have hy:=hyi.out wo ⟨gh,j*2,none⟩ hl;obtain⟨T,hT⟩:∃ T,T=(R.params.zip #[Ag (some ⟨gh,j*2,none⟩)]).foldl (fun tmps (t,a)=>tmps.setIfInBounds t a) R.tmps:=⟨_,rfl⟩
     rw[<-hT]at hy;have hRd:=HR.out bA _ wo _ T hA had hT;have HG2:=Qa hg2;clear hl hA hT hP had hg2;rw[HG2.out]at cB;gi_wp2;refine hRd.mono ?_
     rintro e w3 ⟨rfl,hA3⟩
     clear hy hRd cL cB;gi_wp2;go_roundw
     case rel=>exact⟨j+1,by simp,by omega,hA3⟩
     case measure=>simp[intOf];omega
    ·obtain rfl:j=L.holds.length:=by omega
     clear hjn hP;gi_wp2;gi_loopw [62] (fun ix wr=>∃ (j:Nat),ix=.int .i64 j/\j<=L.Au.length/\J bA (L.reads.length+L.keeps.length+L.holds.length+ke L.Au j) wr) (fun ix _=>L.Au.length-(intOf ix).toNat)
     case atStart=>exact⟨0,rfl,by omega,hA⟩
     case round =>
      clear hA cL cB;obtain⟨j,rfl,hj,hA⟩:=hrel;obtain⟨wo,rfl⟩:∃ wo:Aa,wo=wr:=⟨_,rfl⟩;have hP:=HJ.out _ _ _ hA;have cL:=hP.jL.cell;have cB:=hP.jB.cell;by_cases hjn:j<L.Au.length
      ·have hjI:(j:Int)<(L.Au.length:Int):=by omega
       have hg2:=HF.out.2.2.2 (by omega)
       have hl:=hP.hl;obtain⟨u,hu⟩:∃ u,L.Au[j]?=some u:=⟨_,Qb hjn⟩;obtain⟨ha1,ha2⟩:=Vs gu L.Au 0 j u hu;have had:=Lj (.slice ar L.reads.length cr) (.slice ak L.keeps.length ck) (.slice ah L.holds.length ch) (.slice au L.Au.length cu) L;rw[<-HGu.out]at had;rw[Nat.zero_add]at ha1 ha2;have hy:=hyi.out wo ⟨gu,j*4+1,none⟩ hl;obtain⟨T,hT⟩:∃ T,T=(R.params.zip #[Ag (some ⟨gu,j*4+1,none⟩)]).foldl (fun tmps (t,a)=>tmps.setIfInBounds t a) R.tmps:=⟨_,rfl⟩
       rw[<-hT]at hy;have hRd:=HR.out bA _ wo _ T hA ((had _).trans ha1) hT;have hcs:=Yq hu;have HG2:=Qa hg2;have HU:=Qa hu;have HA2:=Qa (fun hk=>(had _).trans (ha2 hk))
       have HCS:=Qa hcs;clear hl hA hT hP had hg2 hu ha1 ha2 hcs;rw[HG2.out]at cB;gi_wp2;refine hRd.mono ?_
       rintro e w3 ⟨rfl,hA3⟩
       clear hy hRd cL cB;have hP3:=HJ.out _ _ _ hA3;have ck3:=hP3.kd j u HU.out;rw[<-HGu.out]at ck3;by_cases hk:u.kind=1
       ·rw[hk]at ck3
        have ck4:w3.cell? ⟨gu,j*4,none⟩=some (.int .i64 1):=ck3;have hy:=hyi.out w3 ⟨gu,j*4+3,none⟩ hP3.hl;obtain⟨T,hT⟩:∃ T,T=(R.params.zip #[Ag (some ⟨gu,j*4+3,none⟩)]).foldl (fun tmps (t,a)=>tmps.setIfInBounds t a) R.tmps:=⟨_,rfl⟩
        rw[<-hT]at hy;have hRd:=HR.out bA _ w3 _ T hA3 (by rw[Nat.add_assoc];exact HA2.out hk) hT
        have HC2:=Qa (show L.reads.length+L.keeps.length+L.holds.length+ke L.Au j+1+1=L.reads.length+L.keeps.length+L.holds.length+ke L.Au (j+1) by have:=HCS.out;rw[if_pos hk]at this;omega)
        clear hP3 hA3 hT ck3 hk;gi_wp2;refine hRd.mono ?_
        rintro e w4 ⟨rfl,hA4⟩
        clear hy hRd ck4;gi_wp2;go_roundw
        case rel=>exact⟨j+1,by simp,by omega,by rw[<-HC2.out];exact hA4⟩
        case measure=>simp[intOf];omega
       ·have hkb:((u.kind:Int)==1)=false:=by rw[Qh];omega
        have ck4:w3.cell? ⟨gu,j*4,none⟩=some (.int .i64 u.kind):=ck3;have HC2:=Qa (show L.reads.length+L.keeps.length+L.holds.length+ke L.Au j+1=L.reads.length+L.keeps.length+L.holds.length+ke L.Au (j+1) by have:=HCS.out;rw[if_neg hk]at this;omega)
        clear hP3 ck3 hk;gi_wp2;refine And.intro (fun _ hf=>nomatch hf) ?_
        first
         | (rename_i hK9 _;refine hK9 _ _ ?_)
         | (rename_i hK9 _ _;refine hK9 _ _ ?_)
         | (rename_i hK9 _ _ _;refine hK9 _ _ ?_)
         | (rename_i hK9 _ _ _ _;refine hK9 _ _ ?_)
        gi_wp2;go_roundw
        case rel=>exact⟨j+1,by simp,by omega,by rw[<-HC2.out];exact hA3⟩
        case measure=>simp[intOf];omega
      ·obtain rfl:j=L.Au.length:=by omega
       have hfin:=Qa (HP.out bA wo (by
        have e:(ww (.slice ar L.reads.length cr) (.slice ak L.keeps.length ck) (.slice ah L.holds.length ch) (.slice au L.Au.length cu) L).length=L.reads.length+L.keeps.length+L.holds.length+ke L.Au L.Au.length:=by
         rw[kl];unfold Lg.roots ke;rw[List.take_length];simp only[Qd,Qg]
        rw[e];exact hA))
       gi_wp2;exact bodyPost_ret (results_none rfl _ _ _) rfl hfin.out
end
section
open Go.RowKit Go.Shelf Hp
attribute [local go_sem] Oper.semAt_some
theorem bc {F:Fence}{n:Nat}{P:Program}(w:Aa){ops:Array Oper}{rest:List Oper}{op:Oper}{a:Act}{Q:Exit->Act->Aa->Prop}(hgd:op.guard=none)(s x:Operand)(t:TypeId)
  (ho:op.op=.call { callee:=.builtin .append,args:=#[s,x],argTypes:=#[t,t] })
  (e:TypeId)(i:TypeInfo)(z:Ac)(size bytes:Nat)(ht:P.underlying t=some (.slice e))(hi:P.info? e=some i)(hz:i.zero=some z)
  (hsize:i.size=size)(hby:i.bytes=bytes)(hzs:z.cells.size=size)(hsz:0<size)
  (o:Own)(tg:Tag)(v:Ac)(k:Nat)(xs:List Ac)(hs:a.eval s=v)(hown:Row w o tg e size v k xs)
  (ad:Addr)(m c:Nat)(news:List Ac)(hx:a.eval x=Ah (some ad) m c)(hl:news.length=m*size)(hnews:∀ j u,news[j]?=some u->w.cell? (ad.add j)=some u)(h1:∀ u ∈ news,u.oneCell'=true)
  (h63:k+m<=maxLen)(hbytes:(k+m)*bytes<=140737488355328)
  (h:∀ v' w',Row w' (ext o w.heap.size tg) tg e size v' (k+m) (xs++news)->Stp (fun u=>u=tg) o (ext o w.heap.size tg) w w'->wpListIn F n P ops Q rest (a.put op.dst v') w'):wpListIn F n P ops Q (op::rest) a w:=by
 refine wpListIn_plain hgd fun K hK'=>?_
 obtain⟨v',w',hrun,r1,r2⟩:=xa (P:=P) w t op.type e i z size bytes ht hi hz hsize hby hzs hsz o tg v k xs hown ad m c news hl hnews h1 h63 hbytes;unfold Oper.wpIn;refine⟨?_,?_⟩
 ·simp[Oper.about,ho,resolve,Target.leads,Sem.run_pure]
 ·rw[Oper.semAt_plain F _ _ (by rw[ho];intro c hc';cases hc')]
  simp[execOp,ho,resolve,invoke,builtin,hs,hx,hrun,Result.andThen];exact hK' _ _ (h v' w' r1 r2)
theorem Bq.Pq {w:Aa}{o:Own}{id k b:Nat}{L:Lg}{vr vk vh vu:Ac}(h:Bq w o id k b L vr vk vh vu) :
  (∃ a c,vr=.slice a L.reads.length c/\(0<L.reads.length->a=some ⟨kn vr,0,none⟩))/\(∃ a c,vk=.slice a L.keeps.length c/\(0<L.keeps.length->a=some ⟨kn vk,0,none⟩)) /\
  (∃ a c,vh=.slice a L.holds.length c/\(0<L.holds.length->a=some ⟨kn vh,0,none⟩))/\(∃ a c,vu=.slice a L.Au.length c/\(0<L.Au.length->a=some ⟨kn vu,0,none⟩)):=by
 have f:∀ {e:TypeId}{size n:Nat}{t:Tag}{v:Ac}{xs:List Ac},Row w o t e size v n xs->∃ a c,v=.slice a n c/\(0<n->a=some ⟨kn v,0,none⟩):=by
  intro e size n t v xs hr;obtain⟨a,c,rfl⟩:=hr.AY;refine⟨a,c,rfl,fun hn=>?_⟩
  obtain⟨cap,e1,_⟩:=p9 hr hn;injection e1
 exact⟨f h.rr,f h.rk,f h.rh,f h.ru⟩
theorem Bq.kinds {w:Aa}{o:Own}{id k b:Nat}{L:Lg}{vr vk vh vu:Ac}(h:Bq w o id k b L vr vk vh vu)(j:Nat)(u:Un)(hu:L.Au[j]?=some u):w.cell? ⟨kn vu,j*4,none⟩=some (nv u.kind):=by
 have hn:0<L.Au.length:=by have:=(Qc.1 hu).1;omega
 obtain⟨cap,ev,_⟩:=p9 h.ru hn;have hr:=h.ru;rw[ev]at hr;exact (hr.Mm j u hu).1
theorem nf:∀ (us:List Un)(l:List Nat),(we us l).map (·.kind)=us.map (·.kind)
 | [],_=>rfl
 | u::us,l=>by
  unfold we;split
  ·rw[List.map_cons,List.map_cons,nf us]
  ·rw[List.map_cons,List.map_cons,nf us]
theorem Bq.FG {w:Aa}{o:Own}{id k b:Nat}{L:Lg}{q:List Nat}{vr vk vh vu:Ac}(h:Bq w o id k b (L.put q) vr vk vh vu)(j:Nat)(u:Un)(hu:L.Au[j]?=some u):w.cell? ⟨kn vu,j*4,none⟩=some (nv u.kind):=by
 have e:=congrArg (fun l=>l[j]?) (nf L.Au (q.drop (L.reads.length+L.keeps.length+L.holds.length)))
 simp only[Qj,hu,Option.map_some]at e;obtain⟨z,hz,hk⟩:=Option.map_eq_some_iff.1 e;rw[h.kinds j z hz,hk]
abbrev tR:Tag:=(1,0)
abbrev tB:Tag:=(2,0)
structure EP (w:Aa)(b:Nat)(L:Lg)(vr vk vh vu:Ac)(D bL bR:Nat)(R:Loop)(bA m:Nat)(o1:Own)(v:Ac)(wr:Aa):Prop where
 sp:Stp T2 Et o1 w wr
 hL:wr.heap[D+1]?=some (.loop R)
 hD:wr.heap[D]?=some (.deferred (some []))
 jA:Am wr bA #[vr,vk] 25
 jL:Am wr bL #[ptr b] 105
 jR:Am wr bR #[v] 25
 row:Row wr o1 tR 3 1 v m ((L.roots.take m).map nv)
 tL:o1 (D+1)=tB
 tD:o1 D=tB
 tA:o1 bA=tB
 tl:o1 bL=tB
 tr:o1 bR=tB
section
variable {w : Aa} {b : Nat} {L : Lg} {vr vk vh vu : Ac} {D bL bR : Nat} {R : Loop} {bA m : Nat} {o1 o2 : Own} {v : Ac} {wr w2 : Aa}
theorem EP.CB (h:EP w b L vr vk vh vu D bL bR R bA m o1 v wr){T:Tag->Prop}(hs:Stp T o1 o2 wr w2)(hB:¬T tB)(hR:¬T tR)(hT:∀ t,T t->T2 t):EP w b L vr vk vh vu D bL bR R bA m o2 v w2:=
 have lL:=(Qf.1 h.hL).1
 have lD:=(Qf.1 h.hD).1
 ⟨h.sp.trans (hs.mono hT),(hs.block _ lL (by rw[h.tL];exact hB)).trans h.hL,(hs.block _ lD (by rw[h.tD];exact hB)).trans h.hD,h.jA.Ao hs (by rw[h.tA];exact hB),h.jL.Ao hs (by rw[h.tl];exact hB),h.jR.Ao hs (by rw[h.tr];exact hB),h.row.Ao hs hR,
  (hs.tags _ lL).trans h.tL,(hs.tags _ lD).trans h.tD,(hs.tags _ h.jA.lt).trans h.tA,(hs.tags _ h.jL.lt).trans h.tl,(hs.tags _ h.jR.lt).trans h.tr⟩
theorem EP.below (h:EP w b L vr vk vh vu D bL bR R bA m o1 v wr)(hb:Ae wr.heap.size wr w2):EP w b L vr vk vh vu D bL bR R bA m o1 v w2:=
 h.CB (T:=fun _=>False) (Stp.of_below hb) id id fun _ h=>h.elim
end
section
variable {w : Aa} {b : Nat} {L : Lg} {vr vk vh vu : Ac} {D bL bR : Nat} {R : Loop} {bA m : Nat} {o1 o2 : Own} {v : Ac} {wr w2 : Aa}
theorem EP.put (h:EP w b L vr vk vh vu D bL bR R bA m o1 v wr)(hw:w.heap.size<=D)(R':Loop):EP w b L vr vk vh vu D bL bR R' bA m o1 v (wr.putObj (D+1) (.loop R')):=by
 have n1:bA≠D+1:=fun e=>by have:=h.jA;unfold Am at this;rw[e,h.hL]at this;cases this
 have n2:bL≠D+1:=fun e=>by have:=h.jL;unfold Am at this;rw[e,h.hL]at this;cases this
 have n3:bR≠D+1:=fun e=>by have:=h.jR;unfold Am at this;rw[e,h.hL]at this;cases this
 exact⟨h.sp.CI (by omega) _,World.putObj_heap_same (Qf.1 h.hL).1,(World.putObj_heap_other (by omega)).trans h.hD,h.jA.put n1,h.jL.put n2,h.jR.put n3,h.row.put h.hL _,h.tL,h.tD,h.tA,h.tl,h.tr⟩
theorem NY:¬(tB=tR):=fun e=>by simp at e
theorem EP.appended {v':Ac}{x:Nat}(h:EP w b L vr vk vh vu D bL bR R bA m o1 v wr)(hs:Stp (fun u=>u=tR) o1 o2 wr w2)(hrow:Row w2 o2 tR 3 1 v' (m+1) ((L.roots.take m).map nv++[.int .i64 x]))(htk:(L.roots.take (m+1)).map nv=(L.roots.take m).map nv++[nv x]) :
  Am w2 bR #[v] 25/\EP w b L vr vk vh vu D bL bR R bA (m+1) o2 v' (w2.setCell ⟨bR,0,none⟩ v'):=by
 have lL:=(Qf.1 h.hL).1;have lD:=(Qf.1 h.hD).1;have jR2:Am w2 bR #[v] 25:=h.jR.Ao hs (by rw[h.tr];exact NY)
 have tr2:o2 bR=tB:=(hs.tags _ h.jR.lt).trans h.tr;have k:Stp (fun u=>u=tB) o2 o2 w2 (w2.setCell ⟨bR,0,none⟩ v'):=(Stp.refl _ o2 w2).setCell (by show o2 bR=tB;exact tr2) v'
 have hL2:=(hs.block _ lL (by rw[h.tL];exact NY)).trans h.hL
 have hD2:=(hs.block _ lD (by rw[h.tD];exact NY)).trans h.hD
 have jA2:=h.jA.Ao hs (by rw[h.tA];exact NY)
 have jL2:=h.jL.Ao hs (by rw[h.tl];exact NY)
 have n1:bA≠bR:=fun e=>by unfold Am at jA2 jR2;rw[e,jR2]at jA2;simp at jA2
 have n2:bL≠bR:=fun e=>by unfold Am at jL2 jR2;rw[e,jR2]at jL2;simp at jL2
 have n3:D≠bR:=fun e=>by unfold Am at jR2;rw[e,jR2]at hD2;cases hD2
 have n4:D+1≠bR:=fun e=>by unfold Am at jR2;rw[e,jR2]at hL2;cases hL2
 refine⟨jR2,(h.sp.trans (hs.mono fun _ h=>Or.inl h)).trans (k.mono fun _ h=>Or.inr h),(Below.heap_setCell _ _ _ _ n4).trans hL2,(Below.heap_setCell _ _ _ _ n3).trans hD2,jA2.An n1 _,jL2.An n2 _,jR2.set 0 v',?_,(hs.tags _ lL).trans h.tL,(hs.tags _ lD).trans h.tD,(hs.tags _ h.jA.lt).trans h.tA,(hs.tags _ h.jL.lt).trans h.tl,tr2⟩
 rw[htk];exact hrow.Ao k (fun e=>NY e.symm)
theorem Row.Sj {e:TypeId}{size n:Nat}{t:Tag}{o:Own}{v:Ac}{xs:List Ac}(h:Row wr o t e size v n xs){l:Nat}{ds:Option (List Deferred)}(hl:wr.heap[l]?=some (.deferred ds))(x:Obj):Row (wr.putObj l x) o t e size v n xs:=by
 obtain⟨⟨h1,h2⟩,h3⟩:=h;refine⟨⟨h1,?_⟩,h3⟩;rcases h2 with h2|⟨g,cap,cur,rfl,hg,hh,r⟩
 ·exact .inl h2
 ·refine .inr ⟨g,cap,cur,rfl,hg,(World.putObj_heap_other fun e=>?_).trans hh,r⟩
  rw[e,hl]at hh;cases hh
theorem Row.mixed {e:TypeId}{size n:Nat}{v:Ac}{xs:List Ac}{w9:Aa}(hs:Stp T2 Et o1 w wr)(h:Row w9 o1 (1,0) e size v n xs):Row w9 (fo w.heap.size) (1,0) e size v n xs:=by
 refine⟨h.own,fun b hb=>?_⟩
 have h1:=h.tag b hb;rcases Nat.lt_or_ge b w.heap.size with h2|h2
 ·rw[hs.tags b h2]at h1;simp[Et]at h1
 ·exact G1 h2
end
theorem qfs {l:List Nat}{k x:Nat}(h:l[k]?=some x):(l.take (k+1)).map nv=(l.take k).map nv++[nv x]:=by rw[jj h,Qw];rfl
theorem TM {w:Aa} {o:Own} {id k b:Nat} {L:Lg} {vr vk vh vu:Ac} (h:Bq w o id k b L vr vk vh vu) (hk:L.fit) :
  Ab Tryz.prog 65 #[ptr b] w fun e w'=>∃ v,e=O v/\Row w' (fo w.heap.size) (1,0) 3 1 v L.roots.length (L.roots.map nv)/\Ae w.heap.size w w':=by
 have hN:L.roots.length<=1000:=by
  have h1:=kl vr vk vh vu L;have h2:=hk.ok.r;have h3:=hk.ok.k;have h4:=hk.ok.h;have h5:=hk.ok.u;have h6:=hk.ok.mr;have h7:=hk.ok.mu
  have h8:∀ us:List Un,(us.flatMap Un.places).length<=us.length*2:=fun us=>by
   induction us with
   | nil=>simp
   | cons u us ih =>
    rw[List.flatMap_cons,Qd,Qv];have:u.places.length<=2:=by unfold Un.places;split<;>simp
    omega
  have h9:=h8 L.Au;have h0:L.roots.length=L.reads.length+L.keeps.length+L.holds.length+(L.Au.flatMap Un.places).length:=by unfold Lg.roots;simp only[Qd,Qg]
  omega
 have hsl:=h.Pq
 have HPl:=Qa (fun (w':Aa) (hw:Ae w.heap.size w w') (m:Nat) (a:Addr) (ha:(ww vr vk vh vu L)[m]?=some a) =>
  show w'.cell? a=(L.roots[m]?).map nv/\a.spot=none from by
   have hp:=Bq.place L.roots rfl (by rw[US hk];exact h.below hw) ha
   exact⟨hp.1,hp.2.1⟩)
 have HKd:=Qa (fun (w':Aa) (hw:Ae w.heap.size w w')=>(h.below hw).kinds)
 have HBl:=Qa (fun (w':Aa) (hw:Ae w.heap.size w w')=>h.AU.below hw h.AU.lt)
 have HLt:=Qa h.AU.lt;have HN:=Qa hN;have n1:L.reads.length<=200:=by have:=hk.ok.r;have:=hk.ok.mr;omega
 have n2:L.keeps.length<=200:=by have:=hk.ok.k;have:=hk.ok.mr;omega
 have n3:L.holds.length<=200:=by have:=hk.ok.h;have:=hk.ok.mu;omega
 have n4:L.Au.length<=200:=by have:=hk.ok.u;have:=hk.ok.mu;omega
 have HSl:=Qa hsl;have HNs:=Qa (And.intro n1 (And.intro n2 (And.intro n3 n4)));clear h hN hsl n1 n2 n3 n4;refine (callsIn_wide (n:=3)).1 ?_;refine callsIn_of_wp_marks Tryz.func65 rfl trivial ?_ rfl;simp only[Tryz.ntmps65,List.size_toArray,Qv,List.length_nil,Nat.reduceAdd,Nat.reduceSub,Array.replicate_succ,Array.replicate_zero,List.push_toArray,List.append_toArray,List.nil_append,List.cons_append];gi_wp2_with (refine⟨trivial,?_⟩;gi_at_call 128;refine (callsIn_wide.2 (co b _)).mono ?_;rintro e w2 ⟨rfl,rfl⟩);obtain⟨W0,hW0⟩:∃ W0,W0=(w.alloc (.cells #[Ah none 0 0] 25)).alloc (.cells #[ptr b] 105):=⟨_,rfl⟩;have hb0:Ae w.heap.size w W0:=by rw[hW0];exact qa (qa (qc _) _) _
 have jR0:Am W0 w.heap.size #[Ah none 0 0] 25:=by rw[hW0];exact (Am.new w _ _).alloc _
 have jL0:Am W0 (w.heap.size+1) #[ptr b] 105:=by rw[hW0];exact Am.Aq _ _ _ _ _ (by simp) rfl
 try rw[<-hW0]
 clear hW0;refine xp (gf:=191) (lb:=#[ptr (w.heap.size+1)]) (by simp[go_sem]) (enters_of Tryz.func191 (by kernel_rfl) rfl) ?_
 intro fn W1 R hW1 hR;obtain⟨D,hD⟩:∃ D,D=W0.heap.size:=⟨_,rfl⟩;have hb12:Ae W0.heap.size W0 W1:=by rw[hW1];exact qa (qa (qc _) _) _
 have hL1:W1.heap[D+1]?=some (.loop R):=by rw[hW1,hD];have:=World.alloc_heap_new (W0.alloc (.deferred (some []))) (.loop R);rwa [World.size_alloc]at this
 have hD1:W1.heap[D]?=some (.deferred (some [])):=by rw[hW1,hD];exact (Below.heap_alloc _ _ _ (by simp)).trans (World.alloc_heap_new W0 _)
 have hRs:R.params.size=1:=by rw[hR];rfl
 rw[<-hD];have hDw:w.heap.size<=D:=by rw[hD];exact hb0.size
 have jL1:=jL0.below hb12 jL0.lt;have jR1:=jR0.below hb12 jR0.lt;have hb1:Ae w.heap.size w W1:=qd hb0 hb12;have jB1:=HBl.out W1 hb1;have hDz:D+1<W1.heap.size:=(Qf.1 hL1).1;have HR:=Qa hR;clear hR hW1 hb12 jL0 jR0 hb0 hD;refine da (fun bA m wr=>∃ o1 v,EP w b L vr vk vh vu D (w.heap.size+1) w.heap.size R bA m o1 v wr) hRs HNs.out.1 HNs.out.2.1 HNs.out.2.2.1 HNs.out.2.2.2 HSl.out.1 HSl.out.2.1 HSl.out.2.2.1 HSl.out.2.2.2 jL1 jB1 ?_ ?_ ?_ ?_
 ·intro W2 bA hb hbA jA
  refine⟨ext Et w.heap.size tB,Ah none 0 0,(Stp.of_below (qd hb1 hb)).ext _ _ (Qk _),(hb.block _ hDz).trans hL1,(hb.block _ (by omega)).trans hD1,jA,jL1.below hb jL1.lt,jR1.below hb jR1.lt,Row.nil _ _ _ _ _,qp (by omega),qp (by omega),qp (by have:=hb1.size;omega),qp (by omega),qp (Qk _)⟩
 ·rintro bA m wr ⟨o1,v,h⟩
  have hb:=T2.below h.sp;exact⟨h.jA,h.jL,HBl.out wr hb,h.hL,HKd.out wr hb⟩
 ·rintro bA m wr a T ⟨o1,v,h⟩ ha hT
  have hb:=T2.below h.sp;obtain⟨hc,hsp⟩:=HPl.out wr hb m a ha;obtain⟨g,ax,asp⟩:=a;simp only at hsp;subst hsp;have hm:m<L.roots.length:=by rw[<-kl vr vk vh vu L];exact (Qc.1 ha).1
  obtain⟨x,hx⟩:∃ x,L.roots[m]?=some x:=⟨_,Qb hm⟩;rw[hx]at hc;replace hc:wr.cell? ⟨g,ax,none⟩=some (.int .i64 x):=hc;have hN9:=HN.out;have hml:m+1<=maxLen:=by simp only[maxLen];omega
  have hmb:(m+1)*8<=140737488355328:=by omega
  have htk:=qfs hx;obtain⟨Post,hPost⟩:∃ Post:Ending->Aa->Prop,Post=fun e W'=>e=O (.bool true)/\∃ o1 v,EP w b L vr vk vh vu D (w.heap.size+1) w.heap.size R bA (m+1) o1 v W':=⟨_,rfl⟩
  rw[<-hPost,hT];have hst:R.state=.ready:=by rw[HR.out]
  have hpe:R.pending=none:=by rw[HR.out]
  have HST:=Qa hst;have HPE:=Qa hpe;have HPost:=Qa hPost;have HTk:=Qa htk;clear hst hpe hPost hT htk hx hm ha hN9;rw[HR.out];refine roundIn_of_wpIn trivial ?_;gi_wp2;refine ym h.hL HST.out ?_;intro W3 hW3 kL3;have h3:EP w b L vr vk vh vu D (w.heap.size+1) w.heap.size { R with state:=.busy } bA m o1 v W3:=by rw[hW3];exact h.put hDw _
  have hc3:W3.cell? ⟨g,ax,none⟩=some (.int .i64 x):=by
   have hg:g≠D+1:=fun e=>by rw[e]at hc;simp[World.cell?,h.hL]at hc
   rw[hW3];have:=World.putObj_heap_other (w:=wr) (o:=.loop { R with state:=.busy }) hg;simp only[World.cell?,this]at hc ⊢;exact hc
  clear hW3 kL3 h hc
  have hend:=Qa (fun (W4:Aa) (o4:Own) (v4:Ac) (hA4:EP w b L vr vk vh vu D (w.heap.size+1) w.heap.size { R with state:=.busy } bA (m+1) o4 v4 W4) =>
   show ∃ v w5,(Instr.endRound (D+1) none).run Tryz.prog W4=.ok v w5/\Post (O v) w5 from by
    refine Ps hA4.hL HST.out HPE.out ?_;intro W5 hW5 _;rw[HPost.out];exact⟨rfl,o4,v4,by rw[hW5];exact hA4.put hDw R⟩)
  obtain⟨pa,cp,rfl⟩:=h3.row.AY;have cR:W3.cell? ⟨w.heap.size,0,none⟩=some (.slice pa m cp):=h3.jR.cell 0;obtain⟨iI,hi,hsI,hyI,hzI⟩:=zi;have h4:=h3.below (w2:=W3.drew.alloc (.cells #[.int .i64 x] 3)) (qa (qe (qc _)) _)
  have HL:=Qa (fun (v':Ac) (w':Aa) (o2:Own) (hrow:Row w' o2 tR 3 1 v' (m+1) ((L.roots.take m).map nv++[.int .i64 x])) (hst:Stp (fun u=>u=tR) o1 o2 (W3.drew.alloc (.cells #[.int .i64 x] 3)) w') =>
   let h:=h4.appended hst hrow HTk.out
   And.intro h.1 (hend.out _ _ _ h.2))
  have H4r:=Qa h4.row;have sR3:w.heap.size<W3.heap.size:=h3.jR.lt;have cR4:(W3.alloc (.cells #[.int .i64 x] 3)).cell? ⟨w.heap.size,0,none⟩=some (.slice pa m cp):=(h3.jR.alloc _).cell 0;clear h3 h4 hend;gi_wp2;refine cf (by kernel_rfl) [[0,1,2,3,4,5,6],[1,0,2,3,4,5,6],[1,2,0,3,4,5,6],[1,2,3,0,4,5,6],[1,2,3,4,0,5,6]] (by kernel_rfl) (by decide) ?_
  intro is his;simp only[List.mem_cons,List.not_mem_nil,or_false]at his;rcases his with rfl|rfl|rfl|rfl|rfl
  all_goals simp only[uq,List.drop_succ_cons,List.drop_zero]
  all_goals gi_wp2_with (first
   | (gi_at_builtin;refine bc _ rfl _ _ _ rfl 3 iI _ 1 8 Tryz.underlying25 hi hzI hsI hyI rfl (by decide) o1 tR _ m _ rfl H4r.out ⟨W3.heap.size,0,none⟩ 1 1 [.int .i64 x] rfl rfl (qx (Am.new W3.drew _ _)) zw hml hmb ?_;intro v' w' hrow hst;obtain⟨pa',cp',rfl⟩:=hrow.AY;obtain⟨j5,HH5⟩:=HL.out _ _ _ hrow hst;have cR5:w'.cell? ⟨w.heap.size,0,none⟩=some (.slice pa m cp):=j5.cell 0;have zR5:=j5.free 0;have sR5:=j5.lt;replace HH5:=Qa HH5;clear hrow hst j5)
   | fail)
  all_goals exact HH5.out
 ·rintro bA wr ⟨o1,v,h⟩
  rw[kl]at h;have hst:R.state≠.busy:=by rw[HR.out];simp
  have hpe:R.pending=none:=by rw[HR.out]
  refine g8 h.hL hst ?_;intro W4 hW4;have h4:EP w b L vr vk vh vu D (w.heap.size+1) w.heap.size { R with state:=.exhausted } bA L.roots.length o1 v W4:=by rw[hW4];exact h.put hDw _
  rw[hpe];dsimp only;have HH:=Qa h4;have cR:W4.cell? ⟨w.heap.size,0,none⟩=some v:=h4.jR.cell 0;obtain⟨pa,cp,rfl⟩:=h4.row.AY;clear h h4 hW4 hst hpe HR hL1 hD1 jL1 jR1 jB1 hb1 HBl HPl HKd;gi_wp2;refine⟨by simp,.inl ⟨_,_,rfl,run_takeDeferred HH.out.hD,?_⟩⟩
  refine⟨.slice pa L.roots.length cp,by simp[results,Tryz.results65,go_sem],.slice pa L.roots.length cp,rfl,?_,?_⟩
  ·have hr:=HH.out.row
   rw[List.take_length]at hr;have hs:=HH.out.sp;refine Row.mixed hs (hr.Sj HH.out.hD _)
  ·exact Fc (T2.below HH.out.sp) hDw _
def bg (id k:Nat)(t:Tag):Prop:=t.1=id/\k+1<=t.2/\t.2<=k+4
def Mp (T:Tag->Prop)(w:Aa)(o:Own)(v:Ac)(l:List Nat):Prop:=
 ∃ a c,v=.slice a l.length c/\∀ (j x:Nat),l[j]?=some x->∃ g off,a=some ⟨g,off,none⟩/\g<w.heap.size/\¬T (o g)/\w.cell? ⟨g,off+j,none⟩=some (nv x)
structure Kg (w:Aa)(b:Nat)(vr vk v:Ac)(D bL bP bN:Nat)(R:Loop)(bA m:Nat)(wr:Aa):Prop where
 bl:Ae w.heap.size w wr
 hL:wr.heap[D+1]?=some (.loop R)
 hD:wr.heap[D]?=some (.deferred (some []))
 jA:Am wr bA #[vr,vk] 25
 jL:Am wr bL #[ptr b] 105
 jP:Am wr bP #[v] 25
 jN:Am wr bN #[.int .i64 m] 3
structure Kh (w:Aa)(o:Own)(id k b:Nat)(L:Lg)(ps:List Nat)(vr vk vh vu v:Ac)(D0 D bL bP bI:Nat)(R:Loop)(o1:Own)(bA m:Nat)(wr:Aa):Prop where
 sp:Stp (bg id k) o o1 w wr
 lg:Bq wr o1 id k b (L.put (ps.take m++L.roots.drop m)) vr vk vh vu
 hL:wr.heap[D+1]?=some (.loop R)
 hD:wr.heap[D]?=some (.deferred (some []))
 h0:wr.heap[D0]?=some (.deferred (some []))
 jA:Am wr bA #[vr,vk] 25
 jL:Am wr bL #[ptr b] 105
 jP:Am wr bP #[v] 25
 jI:Am wr bI #[.int .i64 m] 3
 tL:o1 (D+1)=(id+1,0)
 tD:o1 D=(id+1,0)
 t0:o1 D0=(id+1,0)
 tA:o1 bA=(id+1,0)
 tl:o1 bL=(id+1,0)
 tP:o1 bP=(id+1,0)
 tI:o1 bI=(id+1,0)
theorem Nl (id k:Nat):¬bg id k (id+1,0):=fun h=>by have:=h.1;simp at this
section
variable {w : Aa} {b : Nat} {L : Lg} {vr vk vh vu v : Ac} {D D0 bL bP bN bI : Nat} {R : Loop} {bA m : Nat} {wr w2 : Aa} {o o1 : Own} {id k : Nat} {ps : List Nat}
theorem Kg.put (h:Kg w b vr vk v D bL bP bN R bA m wr)(hw:w.heap.size<=D)(R':Loop):Kg w b vr vk v D bL bP bN R' bA m (wr.putObj (D+1) (.loop R')):=by
 have n1:bA≠D+1:=fun e=>by have:=h.jA;unfold Am at this;rw[e,h.hL]at this;cases this
 have n2:bL≠D+1:=fun e=>by have:=h.jL;unfold Am at this;rw[e,h.hL]at this;cases this
 have n3:bP≠D+1:=fun e=>by have:=h.jP;unfold Am at this;rw[e,h.hL]at this;cases this
 have n4:bN≠D+1:=fun e=>by have:=h.jN;unfold Am at this;rw[e,h.hL]at this;cases this
 exact⟨Fc h.bl (by omega) _,World.putObj_heap_same (Qf.1 h.hL).1,(World.putObj_heap_other (by omega)).trans h.hD,h.jA.put n1,h.jL.put n2,h.jP.put n3,h.jN.put n4⟩
theorem Kg.step (h:Kg w b vr vk v D bL bP bN R bA m wr)(hw:w.heap.size<=bN):Kg w b vr vk v D bL bP bN R bA (m+1) (wr.setCell ⟨bN,0,none⟩ (.int .i64 ((m:Int)+1))):=by
 have n1:bA≠bN:=fun e=>by have h1:=h.jA;have h2:=h.jN;unfold Am at h1 h2;rw[e,h2]at h1;simp at h1
 have n2:bL≠bN:=fun e=>by have h1:=h.jL;have h2:=h.jN;unfold Am at h1 h2;rw[e,h2]at h1;simp at h1
 have n3:bP≠bN:=fun e=>by have h1:=h.jP;have h2:=h.jN;unfold Am at h1 h2;rw[e,h2]at h1;simp at h1
 have n4:D≠bN:=fun e=>by have h2:=h.jN;have h1:=h.hD;unfold Am at h2;rw[e,h2]at h1;cases h1
 have n5:D+1≠bN:=fun e=>by have h2:=h.jN;have h1:=h.hL;unfold Am at h2;rw[e,h2]at h1;cases h1
 exact⟨qo h.bl hw _,(Below.heap_setCell _ _ _ _ n5).trans h.hL,(Below.heap_setCell _ _ _ _ n4).trans h.hD,h.jA.An n1 _,h.jL.An n2 _,h.jP.An n3 _,h.jN.set 0 _⟩
theorem Kh.put (h:Kh w o id k b L ps vr vk vh vu v D0 D bL bP bI R o1 bA m wr)(hw:w.heap.size<=D)(_:L.fit)(R':Loop):Kh w o id k b L ps vr vk vh vu v D0 D bL bP bI R' o1 bA m (wr.putObj (D+1) (.loop R')):=by
 have n1:bA≠D+1:=fun e=>by have:=h.jA;unfold Am at this;rw[e,h.hL]at this;cases this
 have n2:bL≠D+1:=fun e=>by have:=h.jL;unfold Am at this;rw[e,h.hL]at this;cases this
 have n3:bP≠D+1:=fun e=>by have:=h.jP;unfold Am at this;rw[e,h.hL]at this;cases this
 have n4:bI≠D+1:=fun e=>by have:=h.jI;unfold Am at this;rw[e,h.hL]at this;cases this
 have n5:D0≠D+1:=fun e=>by have:=h.h0;rw[e,h.hL]at this;cases this
 have s1:Stp (fun t=>t=(id+1,0)) o1 o1 wr (wr.putObj (D+1) (.loop R')):=(Stp.refl _ o1 wr).put (by rw[h.tL]) _
 exact⟨h.sp.CI (by omega) _,h.lg.Ao s1 (fun j _ e=>by simp at e),World.putObj_heap_same (Qf.1 h.hL).1,(World.putObj_heap_other (by omega)).trans h.hD,(World.putObj_heap_other n5).trans h.h0,h.jA.put n1,h.jL.put n2,h.jP.put n3,h.jI.put n4,h.tL,h.tD,h.t0,h.tA,h.tl,h.tP,h.tI⟩
theorem Kh.step (h:Kh w o id k b L ps vr vk vh vu v D0 D bL bP bI R o1 bA m wr)(hq:ps.length=L.roots.length)(hw:w.heap.size<=bI){g ax x:Nat}(ha:(ww vr vk vh vu L)[m]?=some ⟨g,ax,none⟩)(hx:ps[m]?=some x) :
  g≠bI/\(∃ u,wr.cell? ⟨g,ax,none⟩=some u)/\wr.frozen? ⟨g,ax,none⟩=false/\g<wr.heap.size/\Kh w o id k b L ps vr vk vh vu v D0 D bL bP bI R o1 bA (m+1) ((wr.setCell ⟨g,ax,none⟩ (.int .i64 x)).setCell ⟨bI,0,none⟩ (.int .i64 ((m:Int)+1))):=by
 have hm:m<L.roots.length:=by rw[<-kl vr vk vh vu L];exact (Qc.1 ha).1
 have hql:(ps.take m++L.roots.drop m).length=L.roots.length:=by rw[Qd,Qp,List.length_drop];omega
 obtain⟨c1,_,c3,c4,⟨j,j1,j2,j3⟩,c6⟩:=Bq.place (ps.take m++L.roots.drop m) hql h.lg ha;simp only at c3 j3;have CY:(ps.take m++L.roots.drop m).set m x=ps.take (m+1)++L.roots.drop (m+1):=ug ps L.roots m x hx hm;have hl:=c6 x;rw[CY]at hl;have tg:bg id k (o1 g):=by rw[j3];exact⟨rfl,by simp only;omega,by simp only;omega⟩
 have no:∀ c,o1 c=(id+1,0)->c≠g:=fun c hc e=>Nl id k (by rw[<-hc,e];exact tg)
 have n0:=no _ h.tI;have s1:Stp (bg id k) o1 o1 wr (wr.setCell ⟨g,ax,none⟩ (.int .i64 x)):=(Stp.refl _ o1 wr).setCell tg _;have s2:Stp (fun t=>t=(id+1,0)) o1 o1 (wr.setCell ⟨g,ax,none⟩ (.int .i64 x)) ((wr.setCell ⟨g,ax,none⟩ (.int .i64 x)).setCell ⟨bI,0,none⟩ (.int .i64 ((m:Int)+1))):=(Stp.refl _ o1 _).setCell (by show o1 bI=_;exact h.tI) _
 have nI:∀ {c:Nat}{cs:Array Ac}{t:TypeId},Am wr c cs t->(cs.size≠1\/t≠3)->c≠bI:=fun hc hne e=>by
  have h2:=h.jI;unfold Am at hc h2;rw[e,h2]at hc;rcases hne with hne|hne
  ·injection hc with hc;injection hc with hc hc2;rw[<-hc]at hne;simp at hne
  ·injection hc with hc;injection hc with hc hc2;exact hne hc2.symm
 have nA:=nI h.jA (.inl (by simp))
 have nL:=nI h.jL (.inr (by decide))
 have nP:=nI h.jP (.inr (by decide))
 have nD:D≠bI:=fun e=>by have h2:=h.jI;have h1:=h.hD;unfold Am at h2;rw[e,h2]at h1;cases h1
 have nE:D+1≠bI:=fun e=>by have h2:=h.jI;have h1:=h.hL;unfold Am at h2;rw[e,h2]at h1;cases h1
 have nF:D0≠bI:=fun e=>by have h2:=h.jI;have h1:=h.h0;unfold Am at h2;rw[e,h2]at h1;cases h1
 refine⟨n0.symm,⟨_,by rw[c1,Qb (by rw[hql];exact hm)];rfl⟩,c4,c3,?_⟩
 refine⟨(h.sp.trans s1).setCell_new hw _,hl.Ao s2 (fun j _ e=>by simp at e),?_,?_,?_,?_,?_,?_,?_,h.tL,h.tD,h.t0,h.tA,h.tl,h.tP,h.tI⟩
 ·exact (Below.heap_setCell _ _ _ _ nE).trans ((Below.heap_setCell _ _ _ _ (no _ h.tL)).trans h.hL)
 ·exact (Below.heap_setCell _ _ _ _ nD).trans ((Below.heap_setCell _ _ _ _ (no _ h.tD)).trans h.hD)
 ·exact (Below.heap_setCell _ _ _ _ nF).trans ((Below.heap_setCell _ _ _ _ (no _ h.t0)).trans h.h0)
 ·exact (h.jA.An (no _ h.tA) _).An nA _
 ·exact (h.jL.An (no _ h.tl) _).An nL _
 ·exact (h.jP.An (no _ h.tP) _).An nP _
 ·exact (h.jI.An n0 _).set 0 _
end
theorem UD {L:Lg}(hk:L.fit):L.roots.length<=1000:=by
 have h2:=hk.ok.r;have h3:=hk.ok.k;have h4:=hk.ok.h;have h5:=hk.ok.u;have h6:=hk.ok.mr;have h7:=hk.ok.mu;have h8:∀ us:List Un,(us.flatMap Un.places).length<=us.length*2:=fun us=>by
  induction us with
  | nil=>simp
  | cons u us ih =>
   rw[List.flatMap_cons,Qd,Qv];have:u.places.length<=2:=by unfold Un.places;split<;>simp
   omega
 have h9:=h8 L.Au;have h0:L.roots.length=L.reads.length+L.keeps.length+L.holds.length+(L.Au.flatMap Un.places).length:=by unfold Lg.roots;simp only[Qd,Qg]
 omega
theorem qw (k:Nat)(h:k<=4611686018427387904):wrap64 ((k:Int)+1)=(k:Int)+1/\IntKind.i64.wrap ((k:Int)+1)=(k:Int)+1:=by
 have h1:(-9223372036854775808:Int)<=(k:Int)+1/\(k:Int)+1<=9223372036854775807:=by omega
 exact⟨IntWalk.wrap64_in _ h1,IntWalk.i64_in _ h1⟩
theorem qia {w:Aa} {o:Own} {id k b:Nat} {L:Lg} {vr vk vh vu v:Ac} (h:Bq w o id k b L vr vk vh vu) (hk:L.fit) {ps:List Nat} (hv:Mp (bg id k) w o v ps) (hn:ps.length=L.roots.length) :
  Ab Tryz.prog 66 #[ptr b,v] w fun e w'=>e=O (.bool true)/\∃ o',Bq w' o' id k b (L.put ps) vr vk vh vu/\Stp (bg id k) o o' w w':=by
 have hN:=UD hk;obtain⟨pa,cp,rfl,hps⟩:=hv;have hsl:=h.Pq;have HKd:=Qa (fun (w':Aa) (hw:Ae w.heap.size w w')=>(h.below hw).kinds)
 have HBl:=Qa (fun (w':Aa) (hw:Ae w.heap.size w w')=>h.AU.below hw h.AU.lt)
 have n1:L.reads.length<=200:=by have:=hk.ok.r;have:=hk.ok.mr;omega
 have n2:L.keeps.length<=200:=by have:=hk.ok.k;have:=hk.ok.mr;omega
 have n3:L.holds.length<=200:=by have:=hk.ok.h;have:=hk.ok.mu;omega
 have n4:L.Au.length<=200:=by have:=hk.ok.u;have:=hk.ok.mu;omega
 have HSl:=Qa hsl;have HNs:=Qa (And.intro n1 (And.intro n2 (And.intro n3 n4)));have HN:=Qa hN;have HPs:=Qa hps;have Hn:=Qa hn;have HH:=Qa h;have HK:=Qa hk;obtain⟨n,hnn⟩:∃ n,n=ps.length:=⟨_,rfl⟩;rw[<-hnn];have HNN:=Qa hnn;clear h hk hN hsl n1 n2 n3 n4 hps hn hnn;refine (callsIn_wide (n:=3)).1 ?_;refine callsIn_of_wp_marks Tryz.func66 rfl trivial ?_ rfl;simp only[Tryz.ntmps66,List.size_toArray,Qv,List.length_nil,Nat.reduceAdd,Nat.reduceSub,Array.replicate_succ,Array.replicate_zero,List.push_toArray,List.append_toArray,List.nil_append,List.cons_append];gi_wp2_with (refine⟨trivial,?_⟩;gi_at_call 128;refine (callsIn_wide.2 (co b _)).mono ?_;rintro e w2 ⟨rfl,rfl⟩);obtain⟨W0,hW0⟩:∃ W0,W0=((w.alloc (.cells #[.slice pa n cp] 25)).alloc (.cells #[.int .i64 0] 3)).alloc (.cells #[ptr b] 105):=⟨_,rfl⟩;have hb0:Ae w.heap.size w W0:=by rw[hW0];exact qa (qa (qa (qc _) _) _) _
 have jP0:Am W0 w.heap.size #[.slice pa n cp] 25:=by rw[hW0];exact ((Am.new w _ _).alloc _).alloc _
 have jN0:Am W0 (w.heap.size+1) #[.int .i64 0] 3:=by rw[hW0];exact (Am.Aq _ _ _ _ _ (by simp) rfl).alloc _
 have jL0:Am W0 (w.heap.size+1+1) #[ptr b] 105:=by rw[hW0];exact Am.Aq _ _ _ _ _ (by simp) rfl
 rw[<-hW0];clear hW0;refine xp (gf:=191) (lb:=#[ptr (w.heap.size+1+1)]) (by simp[go_sem]) (enters_of Tryz.func191 (by kernel_rfl) rfl) ?_
 intro fn W1 R hW1 hR;obtain⟨D,hD⟩:∃ D,D=W0.heap.size:=⟨_,rfl⟩;have hb12:Ae W0.heap.size W0 W1:=by rw[hW1];exact qa (qa (qc _) _) _
 have hL1:W1.heap[D+1]?=some (.loop R):=by rw[hW1,hD];have:=World.alloc_heap_new (W0.alloc (.deferred (some []))) (.loop R);rwa [World.size_alloc]at this
 have hD1:W1.heap[D]?=some (.deferred (some [])):=by rw[hW1,hD];exact (Below.heap_alloc _ _ _ (by simp)).trans (World.alloc_heap_new W0 _)
 have hRs:R.params.size=1:=by rw[hR];rfl
 rw[<-hD];have hDw:w.heap.size<=D:=by rw[hD];exact hb0.size
 have jL1:=jL0.below hb12 jL0.lt;have jP1:=jP0.below hb12 jP0.lt;have jN1:=jN0.below hb12 jN0.lt;have hb1:Ae w.heap.size w W1:=qd hb0 hb12;have jB1:=HBl.out W1 hb1;have hDz:D+1<W1.heap.size:=(Qf.1 hL1).1;have HR:=Qa hR;clear hR hW1 hb12 jL0 jP0 jN0 hb0 hD;refine da (fun bA m wr=>Kg w b vr vk (.slice pa n cp) D (w.heap.size+1+1) w.heap.size (w.heap.size+1) R bA m wr) hRs HNs.out.1 HNs.out.2.1 HNs.out.2.2.1 HNs.out.2.2.2 HSl.out.1 HSl.out.2.1 HSl.out.2.2.1 HSl.out.2.2.2 jL1 jB1 ?_ ?_ ?_ ?_
 ·intro W2 bA hb hbA jA
  exact⟨qd hb1 hb,(hb.block _ hDz).trans hL1,(hb.block _ (by omega)).trans hD1,jA,jL1.below hb jL1.lt,jP1.below hb jP1.lt,jN1.below hb jN1.lt⟩
 ·rintro bA m wr h
  exact⟨h.jA,h.jL,HBl.out wr h.bl,h.hL,HKd.out wr h.bl⟩
 ·rintro bA m wr a T h ha hT
  have hm:m<L.roots.length:=by rw[<-kl vr vk vh vu L];exact (Qc.1 ha).1
  obtain⟨hw1,hw2⟩:=qw m (by have:=HN.out;omega)
  obtain⟨Post,hPost⟩:∃ Post:Ending->Aa->Prop,Post=fun e W'=>e=O (.bool true)/\Kg w b vr vk (.slice pa n cp) D (w.heap.size+1+1) w.heap.size (w.heap.size+1) R bA (m+1) W':=⟨_,rfl⟩
  rw[<-hPost,hT];have hst:R.state=.ready:=by rw[HR.out]
  have hpe:R.pending=none:=by rw[HR.out]
  have HST:=Qa hst;have HPE:=Qa hpe;have HPost:=Qa hPost;clear hst hpe hPost hT ha hm;rw[HR.out];refine roundIn_of_wpIn trivial ?_;gi_wp2;refine ym h.hL HST.out ?_;intro W3 hW3 kL3;have h3:Kg w b vr vk (.slice pa n cp) D (w.heap.size+1+1) w.heap.size (w.heap.size+1) { R with state:=.busy } bA m W3:=by rw[hW3];exact h.put hDw _
  clear hW3 kL3 h;have h4:=h3.step (by omega)
  have hend:=Qa (show ∃ v w5,(Instr.endRound (D+1) none).run Tryz.prog (W3.setCell ⟨w.heap.size+1,0,none⟩ (.int .i64 ((m:Int)+1)))=.ok v w5/\Post (O v) w5 from by
    refine Ps h4.hL HST.out HPE.out ?_;intro W5 hW5 _;rw[HPost.out];exact⟨rfl,by rw[hW5];exact h4.put hDw R⟩)
  have cN:W3.cell? ⟨w.heap.size+1,0,none⟩=some (.int .i64 m):=h3.jN.cell 0;have zN:=h3.jN.free 0;have sN:=h3.jN.lt;clear h3 h4;gi_wp2;exact hend.out
 ·rintro bA wr h
  rw[kl]at h;have hst:R.state≠.busy:=by rw[HR.out];simp
  have hpe:R.pending=none:=by rw[HR.out]
  refine g8 h.hL hst ?_;intro W4 hW4;have h4:Kg w b vr vk (.slice pa n cp) D (w.heap.size+1+1) w.heap.size (w.heap.size+1) { R with state:=.exhausted } bA L.roots.length W4:=by rw[hW4];exact h.put hDw _
  rw[hpe];dsimp only;have cN:W4.cell? ⟨w.heap.size+1,0,none⟩=some (.int .i64 L.roots.length):=h4.jN.cell 0;have cP:W4.cell? ⟨w.heap.size,0,none⟩=some (.slice pa n cp):=h4.jP.cell 0;have sN:=h4.jN.lt;have hne:((L.roots.length:Int) != (n:Int))=false:=by rw[HNN.out,Hn.out];exact bne_self_eq_false' _
  have hb4:=h4.bl;have hD4:=Qa h4.hD;have jP4:=h4.jP;have hDl:D<W4.heap.size:=(Qf.1 h4.hD).1;clear h h4 hW4 hst hpe HR hL1 hD1 jL1 jP1 jN1 jB1 hb1 hDz hRs;clear R;gi_wp2_with (refine⟨trivial,?_⟩;gi_at_call 128;refine (callsIn_wide.2 (co b _)).mono ?_;rintro e w2 ⟨rfl,rfl⟩);obtain⟨W0,hW0⟩:∃ W0,W0=(W4.alloc (.cells #[.int .i64 0] 3)).alloc (.cells #[ptr b] 105):=⟨_,rfl⟩;obtain⟨bI,hbI⟩:∃ bI,bI=W4.heap.size:=⟨_,rfl⟩;have hwI:w.heap.size<=bI:=by rw[hbI];exact hb4.size
  have hb40:Ae W4.heap.size W4 W0:=by rw[hW0];exact qa (qa (qc _) _) _
  have jI0:Am W0 bI #[.int .i64 0] 3:=by rw[hW0,hbI];exact (Am.new W4 _ _).alloc _
  have jL0:Am W0 (bI+1) #[ptr b] 105:=by rw[hW0,hbI];exact Am.Aq _ _ _ _ _ (by simp) rfl
  have hD0:=Qa ((hb40.block _ hDl).trans hD4.out);have jP0:=jP4.below hb40 jP4.lt;have hb0:=qd hb4 hb40;rw[<-hW0,<-hbI];clear hW0 hbI jP4 hD4 hb40 hb4 cN cP sN hne HBl HKd;refine xp (gf:=191) (lb:=#[ptr (bI+1)]) (by simp[go_sem]) (enters_of Tryz.func191 (by kernel_rfl) rfl) ?_
  intro fn W1 R hW1 hR;obtain⟨E,hE⟩:∃ E,E=W0.heap.size:=⟨_,rfl⟩;have hb12:Ae W0.heap.size W0 W1:=by rw[hW1];exact qa (qa (qc _) _) _
  have hL1:W1.heap[E+1]?=some (.loop R):=by rw[hW1,hE];have:=World.alloc_heap_new (W0.alloc (.deferred (some []))) (.loop R);rwa [World.size_alloc]at this
  have hD1:W1.heap[E]?=some (.deferred (some [])):=by rw[hW1,hE];exact (Below.heap_alloc _ _ _ (by simp)).trans (World.alloc_heap_new W0 _)
  have hRs:R.params.size=1:=by rw[hR];rfl
  rw[<-hE];have hEw:w.heap.size<=E:=by rw[hE];exact hb0.size
  have hDE:D<E:=by rw[hE];exact (Qf.1 hD0.out).1
  have hD01:=(hb12.block _ (Qf.1 hD0.out).1).trans hD0.out;have jL1:=jL0.below hb12 jL0.lt;have jP1:=jP0.below hb12 jP0.lt;have jI1:=jI0.below hb12 jI0.lt;have hb1:Ae w.heap.size w W1:=qd hb0 hb12;have jB1:=(HH.out.below hb1).AU;have hEz:E+1<W1.heap.size:=(Qf.1 hL1).1;have HR:=Qa hR;clear hR hW1 hb12 jL0 jP0 jI0 hb0 hE hD0;refine da (fun bA m wr=>∃ o1,Kh w o id k b L ps vr vk vh vu (.slice pa n cp) D E (bI+1) w.heap.size bI R o1 bA m wr) hRs HNs.out.1 HNs.out.2.1 HNs.out.2.2.1 HNs.out.2.2.2 HSl.out.1 HSl.out.2.1 HSl.out.2.2.1 HSl.out.2.2.2 jL1 jB1 ?_ ?_ ?_ ?_
  ·intro W2 bA hb hbA jA
   have hb2:=qd hb1 hb;have hx:∀ c,w.heap.size<=c->ext o w.heap.size (id+1,0) c=(id+1,0):=fun c hc=>qp hc
   have hl:Bq W2 (ext o w.heap.size (id+1,0)) id k b L vr vk vh vu:=HH.out.Ao (T:=fun _=>False) ((Stp.of_below hb2).ext _ _ (Qk _)) fun _ _ h=>h
   refine⟨ext o w.heap.size (id+1,0),(Stp.of_below hb2).ext _ _ (Qk _),?_,(hb.block _ hEz).trans hL1,(hb.block _ (by omega)).trans hD1,(hb.block _ (by omega)).trans hD01,jA,jL1.below hb jL1.lt,jP1.below hb jP1.lt,jI1.below hb jI1.lt,hx _ (by omega),hx _ (by omega),hx _ (by omega),hx _ (by have:=hb1.size;omega),hx _ (by omega),hx _ (Qk _),hx _ hwI⟩
   rw[List.take_zero,List.nil_append,List.drop_zero,US HK.out];exact hl
  ·rintro bA m wr ⟨o1,h⟩
   have hb:=h.lg.AU;exact⟨h.jA,h.jL,hb,h.hL,h.lg.FG⟩
  ·rintro bA m wr a T ⟨o1,h⟩ ha hT
   have hm:m<L.roots.length:=by rw[<-kl vr vk vh vu L];exact (Qc.1 ha).1
   obtain⟨x,hx⟩:∃ x,ps[m]?=some x:=⟨_,Qb (by rw[Hn.out];exact hm)⟩
   obtain⟨g2,off,rfl,hg2,ht2,hc2⟩:=HPs.out m x hx;have hsp:=(Bq.place (ps.take m++L.roots.drop m) (by rw[Qd,Qp,List.length_drop,Hn.out];omega) h.lg ha).2.1
   obtain⟨g,ax,asp⟩:=a;simp only at hsp;subst hsp;have hmI:(m:Int)<(n:Int):=Int.ofNat_lt.2 (by rw[HNN.out,Hn.out];exact hm)
   obtain⟨hw1,hw2⟩:=qw m (by have:=HN.out;omega)
   obtain⟨Post,hPost⟩:∃ Post:Ending->Aa->Prop,Post=fun e W'=>e=O (.bool true)/\∃ o1,Kh w o id k b L ps vr vk vh vu (Ah (some ⟨g2,off,none⟩) n cp) D E (bI+1) w.heap.size bI R o1 bA (m+1) W':=⟨_,rfl⟩
   rw[<-hPost,hT];have hst:R.state=.ready:=by rw[HR.out]
   have hpe:R.pending=none:=by rw[HR.out]
   have HST:=Qa hst;have HPE:=Qa hpe;have HPost:=Qa hPost;have HA:=Qa ha;have HX:=Qa hx;clear hst hpe hPost hT hm ha hx;rw[HR.out];refine roundIn_of_wpIn trivial ?_;gi_wp2;refine ym h.hL HST.out ?_;intro W3 hW3 kL3;have h3:Kh w o id k b L ps vr vk vh vu (Ah (some ⟨g2,off,none⟩) n cp) D E (bI+1) w.heap.size bI { R with state:=.busy } o1 bA m W3:=by rw[hW3];exact h.put hEw HK.out _
   clear hW3 kL3 h;obtain⟨ne,⟨u,hu⟩,hf,hlt,h4⟩:=h3.step Hn.out hwI HA.out HX.out;have hend:=Qa (show ∃ v w5,(Instr.endRound (E+1) none).run Tryz.prog ((W3.setCell ⟨g,ax,none⟩ (.int .i64 x)).setCell ⟨bI,0,none⟩ (.int .i64 ((m:Int)+1)))=.ok v w5/\Post (O v) w5 from by
     refine Ps h4.hL HST.out HPE.out ?_;intro W5 hW5 _;rw[HPost.out];exact⟨rfl,o1,by rw[hW5];exact h4.put hEw HK.out R⟩)
   have cI:W3.cell? ⟨bI,0,none⟩=some (.int .i64 m):=h3.jI.cell 0;have zI:=h3.jI.free 0;have sI:=h3.jI.lt;have cP:W3.cell? ⟨w.heap.size,0,none⟩=some (Ah (some ⟨g2,off,none⟩) n cp):=h3.jP.cell 0;have c2:W3.cell? ⟨g2,off+m,none⟩=some (.int .i64 x):=by
    have:=h3.sp.block g2 hg2 ht2;rw[show (Value.int .i64 (x:Int))=nv x from rfl,<-hc2];simp only[World.cell?,this]
   have ne2:bI≠g:=fun e=>ne e.symm
   clear h3 h4 hc2;gi_wp2;exact hend.out
  ·rintro bA wr ⟨o1,h⟩
   rw[kl]at h;have hst:R.state≠.busy:=by rw[HR.out];simp
   have hpe:R.pending=none:=by rw[HR.out]
   refine g8 h.hL hst ?_;intro W5 hW5;have h5:Kh w o id k b L ps vr vk vh vu (.slice pa n cp) D E (bI+1) w.heap.size bI { R with state:=.exhausted } o1 bA L.roots.length W5:=by rw[hW5];exact h.put hEw HK.out _
   rw[hpe];dsimp only;have h5h:=Qa h5;clear h h5 hW5 hst hpe HR hL1 hD1 jL1 jP1 jI1 jB1 hb1 hEz hRs;gi_wp2;have n1:D≠E:=by have:=hDE;omega
   refine⟨by simp,.inl ⟨_,_,rfl,run_takeDeferred h5h.out.hD,?_⟩⟩
   refine⟨by simp,.inl ⟨_,_,rfl,run_takeDeferred ((World.putObj_heap_other n1).trans h5h.out.h0),?_⟩⟩
   refine⟨.bool true,by simp[results,Tryz.results66,go_sem],rfl,o1,?_,?_⟩
   ·have hl:=h5h.out.lg
    rw[List.drop_length,List.append_nil,<-Hn.out,List.take_length]at hl;have s1:Stp (fun t=>t=(id+1,0)) o1 o1 W5 (W5.putObj E (.deferred none)):=(Stp.refl _ o1 W5).put (by rw[h5h.out.tD]) _
    have s2:Stp (fun t=>t=(id+1,0)) o1 o1 W5 ((W5.putObj E (.deferred none)).putObj D (.deferred none)):=s1.put (by rw[h5h.out.t0]) _
    exact hl.Ao s2 fun j _ e=>by simp at e
   ·exact (h5h.out.sp.CI hEw _).CI hDw _
end
section
open Go.RowKit Hp Go.Maps
attribute [local go_sem ↓] Go.wp_at_zero Go.wp_at_succ
theorem UX:∀ (l k:List Nat),l.Nodup->(∀ x ∈ l,x ∈ k)->l.length<=k.length
 | [],_,_,_=>Nat.zero_le _
 | a::l,k,hn,hs=>by
  obtain⟨h1,h2⟩:=List.nodup_cons.1 hn;have ha:=hs a (by simp)
  have:=UX l (k.erase a) h2 fun x hx=>(List.mem_erase_of_ne (fun e=>h1 (by rw[<-e];exact hx))).2 (hs x (by simp[hx]))
  rw[List.length_erase_of_mem ha]at this;have hk:0<k.length:=List.length_pos_of_mem ha;rw[Qv];omega
theorem TK:∀ (l:List Nat)(p:Nat),(Ez l p).isSome=true↔p ∈ l
 | [],p=>by simp[Ez]
 | q::l,p=>by
  unfold Ez;by_cases e:q=p
  ·subst e;simp
  ·rw[if_neg e,TK l p,List.mem_cons]
   exact⟨fun h=>.inr h,fun h=>h.elim (fun h=>absurd h.symm e) id⟩
theorem Hv (P:List Nat)(p:Nat):(here P p).isSome=true↔p ∈ P:=by unfold here;rw[TK,List.mem_reverse]
def xc (P:List Nat)(l:List Nat):List Nat:=l.foldl yq P
theorem TQ (P l:List Nat)(p:Nat):xc P (l++[p])=yq (xc P l) p:=by unfold xc;rw[List.foldl_append];rfl
theorem Wy (P:List Nat)(p:Nat):P.length<=(yq P p).length:=by
 unfold yq;split
 ·exact Qk _
 ·rw[Qd];exact Nat.le_add_right _ _
theorem VJ:∀ (l P:List Nat),P.length<=(xc P l).length
 | [],_=>Qk _
 | p::l,P=>Qo (Wy P p) (VJ l (yq P p))
abbrev Gf:=Nat->Option Ob
def dq (G:Gf)(p:Nat):List Nat:=match G p with|some ob=>ob.AJ|none=>[]
def Ej (G:Gf):Nat->Nat->List Nat->List Nat
 | 0,_,P=>P
 | n+1,i,P=>if i<P.length then Ej G n (i+1) (xc P (dq G (P.getD i 0))) else P
def fc (G:Gf)(N:Nat)(roots:List Nat):List Nat:=Ej G N 0 (xc [] roots)
structure ED (G:Gf)(P:List Nat):Prop where
 nd:P.Nodup
 QZ:∀ p ∈ P,(G p).isSome=true
def FV (G:Gf)(l:List Nat):Prop:=∀ p ∈ l,p=0\/(G p).isSome=true
theorem ED.to {G:Gf}{P:List Nat}(h:ED G P){p:Nat}(hp:p=0\/(G p).isSome=true):ED G (yq P p):=by
 unfold yq;split
 ·exact h
 ·rename_i hn
  rw[Hv]at hn;have h1:p≠0:=fun e=>hn (.inl e)
  have h2:p ∉ P:=fun e=>hn (.inr e)
  refine⟨List.nodup_append.2 ⟨h.nd,by simp,fun a ha b hb=>?_⟩,fun q hq=>?_⟩
  ·simp at hb;subst hb;exact fun e=>h2 (by rw[<-e];exact ha)
  ·rcases Qs.1 hq with hq|hq
   ·exact h.QZ q hq
   ·simp at hq;subst hq;exact hp.resolve_left h1
theorem ED.le {G:Gf}{P:List Nat}(h:ED G P){K:List Nat}(hK:∀ p,(G p).isSome=true->p ∈ K):P.length<=K.length:=UX P K h.nd fun x hx=>hK x (h.QZ x hx)
structure Nb (w:Aa)(a wd L:Nat)(f:Nat->Nat)(G:Gf):Prop where
 B5:BF w a wd L f
 ob:∀ p x,G p=some x->Bi f p x/\x.ok/\p+x.size<=L
theorem Nb.below {w w':Aa}{a wd L:Nat}{f:Nat->Nat}{G:Gf}(h:Nb w a wd L f G)(hb:Ae w.heap.size w w'):Nb w' a wd L f G:=⟨h.B5.below hb,h.ob⟩
structure Nu (G:Gf)(K:List Nat):Prop where
 keys:∀ p,(G p).isSome=true->p ∈ K
 num:K.length<=100000
 UE:∀ p,(G p).isSome=true->p<=131072
 shut:∀ p x,G p=some x->FV G x.AL
theorem Nu.AJ {G:Gf}{K:List Nat}(h:Nu G K)(p:Nat):FV G (dq G p):=by
 unfold dq;split
 ·rename_i x hx
  unfold Ob.AJ;split
  ·intro q hq;cases hq
  ·exact h.shut p x hx
 ·intro q hq;cases hq
theorem Nu.bd {G:Gf}{K:List Nat}(h:Nu G K){l:List Nat}(hl:FV G l){p:Nat}(hp:p ∈ l):p<=131072:=by
 rcases hl p hp with h0|h0
 ·omega
 ·exact h.UE p h0
theorem Xz (G:Gf){n i:Nat}{P:List Nat}(h:P.length<=i):Ej G n i P=P:=by
 cases n with
 | zero=>rfl
 | succ n=>unfold Ej;rw[if_neg (by omega)]
def UJ (t:Tag):Prop:=t=(50,0)\/t=(50,1)\/t=(50,2)
def Old (n:Nat)(o:Own):Prop:=∀ b,b<n->o b=(0,0)
theorem Old.below {w W w':Aa} {o o':Own} (h:Old w.heap.size o) (hb:Ae w.heap.size w W) (hs:Stp UJ o o' W w'):Ae w.heap.size w w'/\Old w.heap.size o':=by
 refine⟨((Stp.of_below (T:=UJ) (o:=o) hb).trans hs).below fun b hb' e=>?_,fun b hb'=>(hs.tags b (Qn hb' hb.size)).trans (h b hb')⟩
 rw[h b hb']at e;rcases e with e|e|e<;>simp at e
section
variable {w w' : Aa} {a wd L : Nat} {f : Nat -> Nat} {G : Gf} {K : List Nat}
theorem GI (h:Nb w a wd L f G)(hG:Nu G K){v:Ac}{roots:List Nat}{o:Own}{t:Tag}(hv:Row w o t 3 1 v roots.length (roots.map nv))(hr:FV G roots)(hn:roots.length<=1000000) :
  Ab Tryz.prog 175 #[Ag (some ⟨a,0,none⟩),v] w fun e w'=>∃ c mb oo,e=O (Aj #[ptr c,.int .i64 0])/\BN w' oo c mb (fc G K.length roots)/\ED G (fc G K.length roots)/\Ae w.heap.size w w'/\Old w.heap.size oo:=by
 obtain⟨pv,cv,rfl⟩:=hv.AY;have hmm:=@run_makeMap Tryz.prog;obtain⟨W,hW⟩:∃ W:Aa,W=(w.alloc (.map #[] 0)).alloc (.cells #[Ah none 0 0,.map (some w.heap.size)] 253):=⟨_,rfl⟩;obtain⟨o1,ho1⟩:∃ o1:Own,o1=fun b=>if b<w.heap.size then (0,0) else if b=w.heap.size then (50,2) else if b=w.heap.size+1 then (50,0) else (60,0):=⟨_,rfl⟩
 have hbW:Ae w.heap.size w W:=by rw[hW];exact qa (qa (qc w) _) _
 have hOld:Old w.heap.size o1:=fun b hb=>by rw[ho1];exact if_pos hb
 have hC0:BN W o1 (w.heap.size+1) w.heap.size []:=by
  refine⟨⟨Ah none 0 0,by rw[hW];exact Am.Aq _ _ _ _ _ (by simp) rfl,Row.nil _ _ _ _ _⟩,?_,?_,?_⟩
  ·rw[hW];exact (World.ownsMap_made w _ _ _).alloc _
  ·rw[ho1];show (if _ then _ else _)=_;rw[if_neg (by omega),if_neg (by omega),if_pos rfl]
  ·rw[ho1];show (if _ then _ else _)=_;rw[if_neg (by omega),if_pos rfl]
 obtain⟨c,hc⟩:∃ c,c=w.heap.size+1:=⟨_,rfl⟩;obtain⟨mb,hmb⟩:∃ mb,mb=w.heap.size:=⟨_,rfl⟩;rw[<-hc]at hC0;have HW:=Qa hW;have hcm:mb+1=c:=by rw[hc,hmb]
 have hC1:BN W o1 c mb []:=by rw[hmb];exact hC0
 have HC0:=Qa hC1;have HB0:=Qa (And.intro hbW hOld);have HV:=Qa hv;have HGI:=Qa h;have HGO:=Qa hG;have HRo:=Qa hr;obtain⟨n,hnn⟩:∃ n,n=roots.length:=⟨_,rfl⟩;rw[<-hnn]at HV hn ⊢;have HN:=Qa hnn;have HNm:=Qa hn;obtain⟨R,hR⟩:∃ R,R=fc G K.length roots:=⟨_,rfl⟩;rw[<-hR];have HRR:=Qa hR;clear hR h hG hv hr hbW hOld hC0 hC1 ho1 hnn hc hn;go_enter Tryz.func175,Tryz.ntmps175;go_wp2_with fail;rw[<-hmb];have hfold:(w.alloc (.map #[] 0)).alloc (.cells #[Ah none 0 0,.map (some mb)] 253)=W:=by rw[hW,hmb]
 rw[hfold,hcm];clear hW hfold HW hmm hcm hmb;go_loopw [19] (fun ix wr=>∃ (k:Nat)(oo:Own),ix=.int .i64 k/\k<=n/\BN wr oo c mb (xc [] (roots.take k))/\ED G (xc [] (roots.take k))/\Ae w.heap.size w wr/\Old w.heap.size oo) (fun ix _=>n-(intOf ix).toNat)
 case atStart=>exact⟨0,o1,rfl,Nat.zero_le _,HC0.out,⟨List.nodup_nil,fun p hp=>by cases hp⟩,HB0.out⟩
 case round =>
  obtain⟨k,oo,rfl,hkn,hC,hI,hb,hO⟩:=hrel;by_cases hlt:k<n
  ·have hkI:(k:Int)<(n:Int):=by omega
   obtain⟨hw1,hw2⟩:=qw k (by have:=HNm.out;omega)
   obtain⟨x,hx⟩:∃ x,roots[k]?=some x:=⟨_,Qb (by rw[<-HN.out];exact hlt)⟩
   obtain⟨g,e,hcell⟩:∃ g,pv=some ⟨g,0,none⟩/\wr.cell? ⟨g,k,none⟩=some (.int .i64 x)/\n<=cv:=by
    rcases (HV.out.below hb).form with ⟨_,h0⟩|⟨g,cap,e,hcap,_⟩
    ·omega
    ·injection e with e1 _ e3
     subst e1 e3;exact⟨g,rfl,(HV.out.below hb).cells k _ (by rw[Qj,hx];rfl),hcap⟩
   subst e;obtain⟨hcell,hcap⟩:=hcell;have hxG:=HRo.out x (Qe hx);have hxb:=HGO.out.bd HRo.out (Qe hx);have hle:=hI.le HGO.out.keys;have HT:=Qa (TE hC (by have:=HGO.out.num;omega) x (by omega))
   have hst:xc [] (roots.take (k+1))=yq (xc [] (roots.take k)) x:=by rw[List.take_add_one,hx];exact TQ _ _ _
   have HI2:=Qa (hI.to hxG);rw[<-hst]at HI2 HT;have HBO:=Qa (And.intro hb hO);clear hst hxG hxb hle hI hC hx hb hO;go_wp2_with fail;refine HT.out.mono ?_
   rintro e w3 ⟨rfl,o3,hC3,hs3⟩
   obtain⟨hb3,hO3⟩:=HBO.out.2.below HBO.out.1 hs3;go_wp2_with fail;go_roundw
   case rel=>exact⟨k+1,o3,by simp,hlt,hC3,HI2.out,hb3,hO3⟩
   case measure=>simp[intOf];omega
  ·obtain rfl:k=n:=by omega
   rw[HN.out,List.take_length]at hC hI;clear hlt hkn HC0 HB0 HRo HV;obtain⟨P0,hP0⟩:∃ P0,P0=xc [] roots:=⟨_,rfl⟩;have hre:R=Ej G K.length 0 P0:=by rw[HRR.out,hP0];rfl
   have HRE:=Qa hre;rw[<-hP0]at hC hI;have HS:=Qa (And.intro hC (And.intro hI (And.intro hb hO)));clear hC hI hb hO hre hP0;go_wp2_with fail;go_loopw [9] (fun ix wr=>∃ (i:Nat)(P:List Nat)(oo:Own),ix=.int .i64 i/\i<=P.length/\BN wr oo c mb P/\ED G P/\Ej G (K.length-i) i P=Ej G K.length 0 P0/\Ae w.heap.size w wr/\Old w.heap.size oo) (fun ix _=>K.length-(intOf ix).toNat)
   case atStart=>exact⟨0,P0,oo,rfl,Nat.zero_le _,HS.out.1,HS.out.2.1,rfl,HS.out.2.2⟩
   case round =>
    clear HS;obtain⟨i,P,oo,rfl,hiP,hC,hI,hgo,hb,hO⟩:=hrel;obtain⟨vp,jb,hp⟩:=hC.AU;obtain⟨pp,cp,rfl⟩:=hp.AY;have cb:=jb.cell;have hle:=hI.le HGO.out.keys;have hnum:=HGO.out.num;by_cases hlt:i<P.length
    ·have hkI:(i:Int)<(P.length:Int):=by omega
     obtain⟨hw1,hw2⟩:=qw i (by omega)
     obtain⟨x,hx⟩:∃ x,P[i]?=some x:=⟨_,Qb hlt⟩;obtain⟨g,e,hcell,hcap⟩:∃ g,pp=some ⟨g,0,none⟩/\wr.cell? ⟨g,i,none⟩=some (.int .i64 x)/\P.length<=cp:=by
      rcases hp.form with ⟨_,h0⟩|⟨g,cap,e,hcap,_⟩
      ·omega
      ·injection e with e1 _ e3
       subst e1 e3;exact⟨g,rfl,hp.cells i _ (by rw[Qj,hx];rfl),hcap⟩
     subst e;have hxG:=hI.QZ x (Qe hx);obtain⟨ob,hob⟩:=Option.isSome_iff_exists.1 hxG;obtain⟨q1,q2,q3⟩:=HGI.out.ob x ob hob;have HSt:=Qa (UZ (HGI.out.B5.below hb) q1 q2 q3);have hsg:dq G x=ob.AJ:=by unfold dq;rw[hob]
     have hsk:=HGO.out.AJ x;rw[hsg]at hsk;have hgo2:Ej G (K.length-(i+1)) (i+1) (xc P ob.AJ)=Ej G K.length 0 P0:=by
      rw[<-hgo,show K.length-i=(K.length-(i+1))+1 from by omega]
      show _=if i<P.length then Ej G (K.length-(i+1)) (i+1) (xc P (dq G (P.getD i 0))) else P
      rw[if_pos hlt,Qi,hx,Option.getD_some,hsg]
     have hlen:ob.AJ.length<=16:=by
      unfold Ob.AJ;split
      ·simp
      ·rw[q2.lp];exact Qo q2.AN.1 (by omega)
     have HCI:=Qa (And.intro hC (And.intro hI (And.intro hb hO)));have HGo2:=Qa hgo2;have HSk:=Qa hsk;have HLe:=Qa hlen;obtain⟨l,hl⟩:∃ l,l=ob.AJ:=⟨_,rfl⟩;rw[<-hl]at HSt HGo2 HSk HLe;obtain⟨wo,rfl⟩:∃ wo:Aa,wo=wr:=⟨_,rfl⟩;clear hgo hgo2 hsk hlen hsg hob hxG q1 q2 q3 hx hC hI hb hO hp jb hl;go_wp2_with fail;refine HSt.out.mono ?_
     rintro e w3 ⟨v3,rfl,hr3,hb3⟩
     obtain⟨p3,c3,rfl⟩:=hr3.AY;obtain⟨m,hm⟩:∃ m,m=l.length:=⟨_,rfl⟩;rw[<-hm]at hr3 HLe ⊢;have HM:=Qa hm;have s3:Stp (fun _=>False) oo (ext oo wo.heap.size (60,0)) wo w3:=(Stp.of_below hb3).ext _ _ (Qk _)
     have HR3:=Qa (hr3.out oo (60,0));have hwz:w.heap.size<=wo.heap.size:=HCI.out.2.2.1.size;have HC3:=Qa (show BN w3 (ext oo wo.heap.size (60,0)) c mb P/\Ae w.heap.size w w3/\Old w.heap.size (ext oo wo.heap.size (60,0)) from
      ⟨HCI.out.1.Ao s3 id id id,qd HCI.out.2.2.1 hb3,fun b hb=>(qj (by omega)).trans (HCI.out.2.2.2 b hb)⟩)
     have hm16:m<=16:=HLe.out;clear hr3 hb3 hm s3 cb hcell hwz;go_wp2_with fail;go_loopw [53] (fun ix wr=>∃ (j:Nat)(o4:Own),ix=.int .i64 j/\j<=m/\BN wr o4 c mb (xc P (l.take j))/\ED G (xc P (l.take j))/\Ae w.heap.size w wr/\Old w.heap.size o4/\Row wr o4 (60,0) 3 1 (.slice p3 m c3) m (l.map nv)) (fun ix _=>m-(intOf ix).toNat)
     case atStart=>exact⟨0,_,rfl,Nat.zero_le _,HC3.out.1,HCI.out.2.1,HC3.out.2.1,HC3.out.2.2,HR3.out⟩
     case round =>
      clear HC3 HR3;obtain⟨j,o4,rfl,hjm,hC4,hI4,hb4,hO4,hR4⟩:=hrel;by_cases hlt2:j<m
      ·have hjI:(j:Int)<(m:Int):=by omega
       obtain⟨hw3,hw4⟩:=qw j (by omega)
       obtain⟨x2,hx2⟩:∃ x,l[j]?=some x:=⟨_,Qb (by rw[<-HM.out];exact hlt2)⟩
       obtain⟨g2,e,hcell2,hcap2⟩:∃ g,p3=some ⟨g,0,none⟩/\wr.cell? ⟨g,j,none⟩=some (.int .i64 x2)/\m<=c3:=by
        rcases hR4.form with ⟨_,h0⟩|⟨g,cap,e,hcap,_⟩
        ·omega
        ·injection e with e1 _ e3
         subst e1 e3;exact⟨g,rfl,hR4.cells j _ (by rw[Qj,hx2];rfl),hcap⟩
       subst e;have hxG:=HSk.out x2 (Qe hx2);have hxb:=HGO.out.bd HSk.out (Qe hx2);have hle4:=hI4.le HGO.out.keys;have HT:=Qa (TE hC4 (by omega) x2 (by omega))
       have hst:xc P (l.take (j+1))=yq (xc P (l.take j)) x2:=by rw[List.take_add_one,hx2];exact TQ _ _ _
       have HI2:=Qa (hI4.to hxG);rw[<-hst]at HI2 HT;have HBO:=Qa (And.intro hb4 (And.intro hO4 hR4));clear hst hxG hxb hle4 hI4 hC4 hx2 hb4 hO4 hR4;go_wp2_with fail;refine HT.out.mono ?_
       rintro e w5 ⟨rfl,o5,hC5,hs5⟩
       obtain⟨hb5,hO5⟩:=HBO.out.2.1.below HBO.out.1 hs5;have hR5:=HBO.out.2.2.Ao hs5 (by simp)
       go_wp2_with fail;go_roundw
       case rel=>exact⟨j+1,o5,by simp,hlt2,hC5,HI2.out,hb5,hO5,hR5⟩
       case measure=>simp[intOf];omega
      ·obtain rfl:j=m:=by omega
       rw[HM.out,List.take_length]at hC4 hI4;have hle4:=hI4.le HGO.out.keys;have HX:=Qa (And.intro hC4 (And.intro hI4 (And.intro hb4 hO4)));have HM2:=HM.out;clear hC4 hI4 hb4 hO4 hR4 HM HSt HCI;go_wp2_with fail;go_roundw
       case rel =>
        refine⟨i+1,xc P l,o4,by simp,?_,HX.out.1,HX.out.2.1,HGo2.out,HX.out.2.2⟩
        exact Qo hlt (VJ l P)
       case measure=>simp[intOf];omega
    ·obtain rfl:i=P.length:=by omega
     rw[Xz G (Qk _)]at hgo;have HX:=Qa (And.intro hC (And.intro hI (And.intro hb hO)));have hRP:R=P:=by rw[HRE.out,<-hgo]
     subst hRP;clear hC hI hb hO hgo hp jb;go_wp2_with fail;go_ret2;exact⟨c,mb,oo,rfl,HX.out⟩
end
def zv (n:Int):Ac:=.int .i64 n
def Eb (P:List Nat)(l:List Nat):List Ac:=l.map fun q=>.int .i64 (gg P q)
section
variable {w w' : Aa} {a wd L : Nat} {f : Nat -> Nat} {G : Gf} {oc : Own} {c mb : Nat} {P : List Nat}
theorem JF (hG:Nb w a wd L f G){p:Nat}{x:Ob}(hx:G p=some x)(hC:BN w oc c mb P) :
  Ab Tryz.prog 176 #[Ag (some ⟨a,0,none⟩),.int .i64 p,ptr c] w fun e w'=>∃ v1 v2 oo,e=O (Aj #[Ak #[.int .i64 x.Ax,.int .i64 x.AN.p,.int .i64 x.AN.d,.bool x.AN.Az,.bool x.AN.final,.bool x.Cn,v1,v2],.int .i64 0]) /\
   Row w' oo (51,0) 3 1 v1 x.AL.length (Eb P x.AL)/\Row w' oo (52,0) 3 1 v2 x.nums.length (x.nums.map zv)/\Ae w.heap.size w w'/\Old w.heap.size oo:=by
 obtain⟨ho,hk,hl⟩:=hG.ob p x hx;have HSh:=Qa (fun (W:Aa)(hb:Ae w.heap.size w W)=>jt (hG.B5.below hb) ho hk hl p rfl)
 have HSe:=Qa (fun (W:Aa)(hb:Ae w.heap.size w W)=>fy (hG.B5.below hb) ho hk hl p rfl)
 have HPt:=Qa (fun (W:Aa)(hb:Ae w.heap.size w W)(i q:Nat)(hq:x.AL[i]?=some q)=>rv (hG.B5.below hb) ho hk hl i q hq p i rfl rfl)
 have HNu:=Qa (fun (W:Aa)(hb:Ae w.heap.size w W)(i:Nat)(n:Int)(hq:x.nums[i]?=some n)=>T9 (hG.B5.below hb) ho hk hl i n hq p i rfl rfl)
 have HIx:=Qa (fun (W:Aa)(hb:Ae w.heap.size w W)(q:Nat)(hq:q<=131072)=>VT (hC.below hb) q (by omega))
 have HOk:=Qa hk;obtain⟨⟨sp,sd,wk,fn⟩,fr,se,Bt,AL,nums⟩:=x;simp only at HSh HSe HPt HNu ⊢;unfold ka at HSh;simp only at HSh;clear hG hx hC ho hk hl;go_enter Tryz.func176,Tryz.ntmps176;go_wp2_with (first
  | (go_at_call 130;refine (HSh.out _ (qa (qc w) _)).mono ?_;rintro e w1 ⟨rfl,hb1⟩;have hb2:=qd (qa (qc w) (.cells #[.int .i64 0,.int .i64 0,.int .i64 0,.bool false,.bool false,.bool false,Ah none 0 0,Ah none 0 0] 120)) hb1)
  | (go_at_call 131;refine (HSe.out _ (qa (qa hb2 _) _)).mono ?_;rintro e w3 ⟨rfl,hb3⟩;have jN:=(Am.Aq (w1.alloc (.cells #[.int .i64 sp,.int .i64 sd,.bool wk,.bool fn] 93)) _ #[.int .i64 0,.int .i64 sp,.int .i64 sd,.bool wk,.bool fn,.bool fr,Ah none 0 0,Ah none 0 0] 120 (w1.heap.size+1) (by simp) rfl).below hb3 (Am.Aq _ _ _ _ _ (by simp) rfl).lt;have jS:=((Am.new w1 #[.int .i64 sp,.int .i64 sd,.bool wk,.bool fn] 93).alloc (.cells #[.int .i64 0,.int .i64 sp,.int .i64 sd,.bool wk,.bool fn,.bool fr,Ah none 0 0,Ah none 0 0] 120)).below hb3 ((Am.new w1 #[.int .i64 sp,.int .i64 sd,.bool wk,.bool fn] 93).alloc (.cells #[.int .i64 0,.int .i64 sp,.int .i64 sd,.bool wk,.bool fn,.bool fr,Ah none 0 0,Ah none 0 0] 120)).lt;have cS:=jS.cell;have cN:=jN.cell;have zN:=jN.free;have lN:=jN.lt)
  | fail)
 have jR:=((Am.new w #[.int .i64 0,.int .i64 0,.int .i64 0,.bool false,.bool false,.bool false,Ah none 0 0,Ah none 0 0] 120).below hb1 (Am.new w #[.int .i64 0,.int .i64 0,.int .i64 0,.bool false,.bool false,.bool false,Ah none 0 0,Ah none 0 0] 120).lt);have jR3:=((jR.alloc (.cells #[.int .i64 sp,.int .i64 sd,.bool wk,.bool fn] 93)).alloc (.cells #[.int .i64 0,.int .i64 sp,.int .i64 sd,.bool wk,.bool fn,.bool fr,Ah none 0 0,Ah none 0 0] 120)).below hb3 ((jR.alloc (.cells #[.int .i64 sp,.int .i64 sd,.bool wk,.bool fn] 93)).alloc (.cells #[.int .i64 0,.int .i64 sp,.int .i64 sd,.bool wk,.bool fn,.bool fr,Ah none 0 0,Ah none 0 0] 120)).lt;have lR:=jR.lt;obtain⟨W,hW⟩:∃ W:Aa,W=w3.setCell ⟨w1.heap.size+1,0,none⟩ (.int .i64 Bt):=⟨_,rfl⟩;rw[<-hW];have jN5:Am W (w1.heap.size+1) #[.int .i64 Bt,.int .i64 sp,.int .i64 sd,.bool wk,.bool fn,.bool fr,Ah none 0 0,Ah none 0 0] 120:=by rw[hW];exact jN.set 0 _
 have jS5:Am W w1.heap.size #[.int .i64 sp,.int .i64 sd,.bool wk,.bool fn] 93:=by rw[hW];exact jS.An (by show w1.heap.size≠w1.heap.size+1;omega) _
 have jR5:Am W w.heap.size #[.int .i64 0,.int .i64 0,.int .i64 0,.bool false,.bool false,.bool false,Ah none 0 0,Ah none 0 0] 120:=by rw[hW];exact jR3.An (by show w.heap.size≠w1.heap.size+1;omega) _
 have hz1:w.heap.size<=w1.heap.size:=hb2.size;have hbW:Ae w.heap.size w W:=by rw[hW];exact qo (qd (qa (qa hb2 _) _) hb3) (by show w.heap.size<=w1.heap.size+1;omega) _
 obtain⟨o1,ho1⟩:∃ o1:Own,o1=fun b=>if b<w.heap.size then (0,0) else (53,0):=⟨_,rfl⟩
 have hO1:Old w.heap.size o1:=fun b hb=>by rw[ho1];exact if_pos hb
 have hT1:∀ b,w.heap.size<=b->o1 b=(53,0):=fun b hb=>by rw[ho1];exact if_neg (by omega)
 have HI:=Qa (And.intro jN5 (And.intro jS5 (And.intro jR5 (And.intro hbW (And.intro hO1 (And.intro (hT1 _ (show w.heap.size<=w1.heap.size+1 by omega)) (And.intro (hT1 _ hz1) (hT1 _ (Qk _)))))))))
 have hlp:AL.length=sp:=HOk.out.lp;have HLp:=Qa hlp;have hsp:sp<=16:=Qo HOk.out.AN.1 (by omega)
 obtain⟨iI,hi,hsI,hyI,hzI⟩:=zi;have hu64:=Tryz.underlying25;have HNE:=Qa (show w.heap.size≠w1.heap.size+1 by omega)
 obtain⟨S,hS⟩:∃ S,S=w1.heap.size:=⟨_,rfl⟩;obtain⟨R,hR⟩:∃ R,R=w.heap.size:=⟨_,rfl⟩;clear jR jR3 lR hW jN5 jS5 jR5 hz1 hbW hO1 hT1 ho1 hb1 hb2 hb3 jN jS cN cS zN lN hlp HSh HSe;have HSR:=Qa (And.intro hS hR);rw[<-hS,<-hR]at HI ⊢;clear hS hR;go_loopw [45] (fun ix wr=>∃ (i:Nat)(v1:Ac)(oo:Own),ix=.int .i64 i/\i<=sp/\Row wr oo (51,0) 3 1 v1 i (Eb P (AL.take i))/\Am wr (S+1) #[.int .i64 Bt,.int .i64 sp,.int .i64 sd,.bool wk,.bool fn,.bool fr,v1,Ah none 0 0] 120/\Am wr S #[.int .i64 sp,.int .i64 sd,.bool wk,.bool fn] 93/\Am wr R #[.int .i64 0,.int .i64 0,.int .i64 0,.bool false,.bool false,.bool false,Ah none 0 0,Ah none 0 0] 120/\Ae R w wr/\Old R oo/\oo (S+1)=(53,0)/\oo S=(53,0)/\oo R=(53,0)) (fun ix _=>sp-(intOf ix).toNat)
 case atStart=>exact⟨0,_,o1,rfl,Nat.zero_le _,Row.nil _ _ _ _ _,HI.out⟩
 case round =>
  clear HI;obtain⟨i,v1,oo,rfl,hin,hr,jN,jS,jR,hb,hO,tN,tS,tR⟩:=hrel;by_cases hlt:i<sp
  ·have hiI:(i:Int)<(sp:Int):=by omega
   have HW:=Qa (qw i (by omega))
   have hb':Ae w.heap.size w wr:=by rw[<-HSR.out.2];exact hb
   obtain⟨q,hq⟩:∃ q,AL[i]?=some q:=⟨_,Qb (by rw[HLp.out];exact hlt)⟩
   have HP:=Qa (HPt.out wr hb' i q hq);have hq131:q<=131072:=HOk.out.ptr q (Qe hq);have HI2:=Qa (fun (W3:Aa)(hb3:Ae wr.heap.size wr W3)=>HIx.out W3 (qd hb' hb3) q hq131)
   obtain⟨pv,cv,rfl⟩:=hr.AY;have HTk:=Qa (show Eb P (AL.take (i+1))=Eb P (AL.take i)++[.int .i64 (gg P q)] from by rw[List.take_add_one,hq];unfold Eb;rw[Qw];rfl)
   have hml:i+1<=maxLen:=by simp only[maxLen];omega
   have hmb:(i+1)*8<=140737488355328:=by omega
   have cN:=jN.cell;have cS:=jS.cell;have lN:=jN.lt;have HX:=Qa (fun (w5 w7:Aa)(o7:Own)(p7:Option Addr)(c7:Nat)(hb5:Ae wr.heap.size wr w5)(hown:Row w7 o7 (51,0) 3 1 (.slice p7 (i+1) c7) (i+1) (Eb P (AL.take i)++[.int .i64 (gg P q)]))(hst:Stp (fun t=>t=(51,0)) oo o7 (w5.drew.alloc (.cells #[.int .i64 (gg P q)] 3)) w7) =>
    show Am w7 (S+1) #[.int .i64 Bt,.int .i64 sp,.int .i64 sd,.bool wk,.bool fn,.bool fr,.slice pv i cv,Ah none 0 0] 120/\(Row (w7.setCell ⟨S+1,6,none⟩ (.slice p7 (i+1) c7)) o7 (51,0) 3 1 (.slice p7 (i+1) c7) (i+1) (Eb P (AL.take (i+1)))/\Am (w7.setCell ⟨S+1,6,none⟩ (.slice p7 (i+1) c7)) (S+1) #[.int .i64 Bt,.int .i64 sp,.int .i64 sd,.bool wk,.bool fn,.bool fr,.slice p7 (i+1) c7,Ah none 0 0] 120/\Am (w7.setCell ⟨S+1,6,none⟩ (.slice p7 (i+1) c7)) S #[.int .i64 sp,.int .i64 sd,.bool wk,.bool fn] 93/\Am (w7.setCell ⟨S+1,6,none⟩ (.slice p7 (i+1) c7)) R #[.int .i64 0,.int .i64 0,.int .i64 0,.bool false,.bool false,.bool false,Ah none 0 0,Ah none 0 0] 120 /\
     Ae R w (w7.setCell ⟨S+1,6,none⟩ (.slice p7 (i+1) c7))/\Old R o7/\o7 (S+1)=(53,0)/\o7 S=(53,0)/\o7 R=(53,0)) from by
     have hbq:Ae wr.heap.size wr (w5.drew.alloc (.cells #[.int .i64 (gg P q)] 3)):=qa (qe hb5) _;have k1:Stp (fun t=>t=(51,0)) oo o7 wr w7:=(Stp.of_below hbq).trans hst
     have j7:=jN.Ao k1 (by rw[tN];simp)
     have s7:=jS.Ao k1 (by rw[tS];simp)
     have r7:=jR.Ao k1 (by rw[tR];simp)
     have tN7:=(k1.tags _ jN.lt).trans tN;have tS7:=(k1.tags _ jS.lt).trans tS;have tR7:=(k1.tags _ jR.lt).trans tR;have k2:Stp (fun t=>t=(53,0)) o7 o7 w7 (w7.setCell ⟨S+1,6,none⟩ (.slice p7 (i+1) c7)):=(Stp.refl _ o7 w7).setCell (by show o7 (S+1)=_;exact tN7) _
     have hRS:R≠S+1:=by rw[HSR.out.2,HSR.out.1];exact HNE.out
     have hz:R=w.heap.size:=HSR.out.2;have kk:Stp (fun t=>t=(51,0)\/t=(53,0)) oo o7 w (w7.setCell ⟨S+1,6,none⟩ (.slice p7 (i+1) c7)):=((Stp.of_below hb').trans (k1.mono fun _ h=>.inl h)).trans (k2.mono fun _ h=>.inr h)
     refine⟨j7,by rw[HTk.out];exact hown.Ao k2 (by simp),j7.set 6 _,s7.An (by show S≠S+1;omega) _,r7.An (by show R≠S+1;exact hRS) _,?_,?_,tN7,tS7,tR7⟩
     ·rw[hz]
      exact kk.below fun b hb2 e=>by
       have:=hO b (by rw[hz];exact hb2)
       rw[this]at e;simp at e
     ·intro b hb2
      exact (kk.tags b (by rw[<-hz];exact hb2)).trans (hO b hb2))
   have HRr:=Qa hr;have JN:=Qa jN;clear hr jN jS jR hb hO tN tS tR hq hb' hq131;go_upto_region 14 with (first
    | (go_at_call 171;refine HP.out.mono ?_;rintro e w5 ⟨rfl,hb5⟩)
    | fail)
   have jN5:=JN.out.below hb5 JN.out.lt;have cN5:=jN5.cell;have lN5:=jN5.lt;have rn:=(HRr.out.below hb5).below (qa (qe (qc w5)) (.cells #[.int .i64 (gg P q)] 3));have jn:=Am.new w5.drew #[.int .i64 (gg P q)] 3;clear cN lN;go_region_law (first
    | (refine zj _ (by rfl) _ _ _ (by rfl) 3 iI _ 1 8 hu64 hi hzI hsI hyI (by rfl) (by decide) oo (51,0) _ _ _ (by rfl) rn ⟨w5.heap.size,0,none⟩ 1 1 [.int .i64 (gg P q)] (by rfl) (by rfl) (qx jn) zw hml hmb ?_;intro v' w7 hown hst;obtain⟨p7,c7,rfl⟩:=hown.AY;obtain⟨j7,hfin⟩:=HX.out w5 w7 _ p7 c7 hb5 hown hst;have c7':=j7.cell;have z7:=j7.free;have l7:=j7.lt)
    | (go_simp;go_wp2_with ((go_at_call 177;refine (HI2.out _ (qe hb5)).mono ?_;rintro e w6 ⟨rfl,rfl⟩))))
   all_goals
    clear hown hst j7;obtain⟨hw1,hw2⟩:=HW.out;go_wp2_with fail;go_roundw
    case rel=>exact⟨i+1,_,_,by simp,hlt,hfin⟩
    case measure=>clear hw1 hw2 hml hmb;simp[intOf];omega
  ·obtain rfl:i=sp:=by omega
   rw[<-HLp.out,List.take_length,HLp.out]at hr;obtain⟨pv,cv,rfl⟩:=hr.AY;have cN:=jN.cell;have cS:=jS.cell;have lN:=jN.lt;have hsd:sd<=16:=Qo HOk.out.AN.2.1 (by omega)
   have HLn:=Qa (show nums.length=sd from HOk.out.ln);have HI:=Qa (And.intro (Row.nil wr oo (52,0) 3 1) (And.intro hr (And.intro jN (And.intro jR (And.intro hb (And.intro hO (And.intro tN tR)))))));have jS0:=Qa jS;clear hr jN jS jR hb hO tN tS tR hlt hin HIx HPt;go_wp2_with fail;clear cN cS lN;go_loopw [70] (fun ix wr=>∃ (j:Nat)(v2:Ac)(oo:Own),ix=.int .i64 j/\j<=sd/\Row wr oo (52,0) 3 1 v2 j ((nums.take j).map zv)/\Row wr oo (51,0) 3 1 (.slice pv i cv) i (Eb P AL)/\Am wr (S+1) #[.int .i64 Bt,.int .i64 i,.int .i64 sd,.bool wk,.bool fn,.bool fr,.slice pv i cv,v2] 120/\Am wr R #[.int .i64 0,.int .i64 0,.int .i64 0,.bool false,.bool false,.bool false,Ah none 0 0,Ah none 0 0] 120/\Ae R w wr/\Old R oo/\oo (S+1)=(53,0)/\oo R=(53,0)) (fun ix _=>sd-(intOf ix).toNat)
   case atStart=>exact⟨0,_,oo,rfl,Nat.zero_le _,HI.out⟩
   case round =>
    clear HI;obtain⟨j,v2,o2,rfl,hjn,hr2,hr,jN,jR,hb,hO,tN,tR⟩:=hrel;by_cases hlt:j<sd
    ·have hjI:(j:Int)<(sd:Int):=by omega
     have HW:=Qa (qw j (by omega))
     have hb':Ae w.heap.size w wr:=by rw[<-HSR.out.2];exact hb
     obtain⟨nq,hq⟩:∃ nq,nums[j]?=some nq:=⟨_,Qb (by rw[HLn.out];exact hlt)⟩
     have HP:=Qa (HNu.out wr hb' j nq hq);obtain⟨p2,c2,rfl⟩:=hr2.AY;have HTk:=Qa (show (nums.take (j+1)).map zv=(nums.take j).map zv++[.int .i64 nq] from by rw[List.take_add_one,hq,Qw];rfl)
     have hml:j+1<=maxLen:=by simp only[maxLen];omega
     have hmb:(j+1)*8<=140737488355328:=by omega
     have HX:=Qa (fun (w5 w7:Aa)(o7:Own)(p7:Option Addr)(c7:Nat)(hb5:Ae wr.heap.size wr w5)(hown:Row w7 o7 (52,0) 3 1 (.slice p7 (j+1) c7) (j+1) ((nums.take j).map zv++[.int .i64 nq]))(hst:Stp (fun t=>t=(52,0)) o2 o7 (w5.alloc (.cells #[.int .i64 nq] 3)) w7) =>
      show Am w7 (S+1) #[.int .i64 Bt,.int .i64 i,.int .i64 sd,.bool wk,.bool fn,.bool fr,.slice pv i cv,.slice p2 j c2] 120/\(Row (w7.setCell ⟨S+1,7,none⟩ (.slice p7 (j+1) c7)) o7 (52,0) 3 1 (.slice p7 (j+1) c7) (j+1) ((nums.take (j+1)).map zv)/\Row (w7.setCell ⟨S+1,7,none⟩ (.slice p7 (j+1) c7)) o7 (51,0) 3 1 (.slice pv i cv) i (Eb P AL)/\Am (w7.setCell ⟨S+1,7,none⟩ (.slice p7 (j+1) c7)) (S+1) #[.int .i64 Bt,.int .i64 i,.int .i64 sd,.bool wk,.bool fn,.bool fr,.slice pv i cv,.slice p7 (j+1) c7] 120/\Am (w7.setCell ⟨S+1,7,none⟩ (.slice p7 (j+1) c7)) R #[.int .i64 0,.int .i64 0,.int .i64 0,.bool false,.bool false,.bool false,Ah none 0 0,Ah none 0 0] 120 /\
       Ae R w (w7.setCell ⟨S+1,7,none⟩ (.slice p7 (j+1) c7))/\Old R o7/\o7 (S+1)=(53,0)/\o7 R=(53,0)) from by
       have hbq:Ae wr.heap.size wr (w5.alloc (.cells #[.int .i64 nq] 3)):=qa hb5 _;have k1:Stp (fun t=>t=(52,0)) o2 o7 wr w7:=(Stp.of_below hbq).trans hst
       have j7:=jN.Ao k1 (by rw[tN];simp)
       have r7:=jR.Ao k1 (by rw[tR];simp)
       have tN7:=(k1.tags _ jN.lt).trans tN;have tR7:=(k1.tags _ jR.lt).trans tR;have k2:Stp (fun t=>t=(53,0)) o7 o7 w7 (w7.setCell ⟨S+1,7,none⟩ (.slice p7 (j+1) c7)):=(Stp.refl _ o7 w7).setCell (by show o7 (S+1)=_;exact tN7) _
       have hRS:R≠S+1:=by rw[HSR.out.2,HSR.out.1];exact HNE.out
       have hz:R=w.heap.size:=HSR.out.2;have kk:Stp (fun t=>t=(52,0)\/t=(53,0)) o2 o7 w (w7.setCell ⟨S+1,7,none⟩ (.slice p7 (j+1) c7)):=((Stp.of_below hb').trans (k1.mono fun _ h=>.inl h)).trans (k2.mono fun _ h=>.inr h)
       refine⟨j7,by rw[HTk.out];exact hown.Ao k2 (by simp),(hr.Ao k1 (by simp)).Ao k2 (by simp),j7.set 7 _,r7.An (by show R≠S+1;exact hRS) _,?_,?_,tN7,tR7⟩
       ·rw[hz]
        exact kk.below fun b hb2 e=>by
         have:=hO b (by rw[hz];exact hb2)
         rw[this]at e;simp at e
       ·intro b hb2
        exact (kk.tags b (by rw[<-hz];exact hb2)).trans (hO b hb2))
     have HR2:=Qa hr2;have JN:=Qa jN;clear hr2 hr jN jR hb hO tN tR hq hb';obtain⟨hw1,hw2⟩:=HW.out;go_wp2_with (first
      | (go_at_call 137;refine HP.out.mono ?_;rintro e w5 ⟨rfl,hb5⟩;have jN5:=JN.out.below hb5 JN.out.lt;have cN5:=jN5.cell;have lN5:=jN5.lt)
      | (at_builtin;refine qf _ rfl _ _ _ rfl 3 iI _ 1 8 hu64 hi hzI hsI hyI rfl (by decide) o2 (52,0) _ _ _ rfl ((HR2.out.below hb5).below (qa (qc w5) (.cells #[.int .i64 nq] 3))) ⟨w5.heap.size,0,none⟩ 1 1 [.int .i64 nq] rfl rfl (qx (Am.new w5 _ _)) zw hml hmb ?_;intro v' w7 hown hst;obtain⟨p7,c7,rfl⟩:=hown.AY;obtain⟨j7,hfin⟩:=HX.out w5 w7 _ p7 c7 hb5 hown hst;have c7':=j7.cell;have z7:=j7.free;have l7:=j7.lt)
      | fail)
     clear hown hst j7;go_roundw
     case rel=>exact⟨j+1,_,_,by simp,hlt,hfin⟩
     case measure=>clear hw1 hw2 hml hmb;simp[intOf];omega
    ·obtain rfl:j=sd:=by omega
     rw[<-HLn.out,List.take_length,HLn.out]at hr2;obtain⟨p2,c2,rfl⟩:=hr2.AY;have cN:=jN.cell;have lN:=jN.lt;have cR:=jR.cell;have zR:=jR.free;have lR:=jR.lt;obtain⟨X,hX⟩:∃ X:Aa,X=((((((((wr.setCell ⟨R,0,none⟩ (.int .i64 Bt)).setCell ⟨R,1,none⟩ (.int .i64 i)).setCell ⟨R,2,none⟩ (.int .i64 j)).setCell ⟨R,3,none⟩ (.bool wk)).setCell ⟨R,4,none⟩ (.bool fn)).setCell ⟨R,5,none⟩ (.bool fr)).setCell ⟨R,6,none⟩ (.slice pv i cv)).setCell ⟨R,7,none⟩ (.slice p2 j c2)):=⟨_,rfl⟩;have jX:Am X R #[.int .i64 Bt,.int .i64 i,.int .i64 j,.bool wk,.bool fn,.bool fr,.slice pv i cv,.slice p2 j c2] 120:=by rw[hX];exact ((((((((jR.set 0 (.int .i64 Bt)).set 1 (.int .i64 i)).set 2 (.int .i64 j)).set 3 (.bool wk)).set 4 (.bool fn)).set 5 (.bool fr)).set 6 (.slice pv i cv)).set 7 (.slice p2 j c2))
     have k2:Stp (fun t=>t=(53,0)) o2 o2 wr X:=by rw[hX];exact (((((((((Stp.refl _ o2 wr).setCell (by show o2 R=_;exact tR) _).setCell (by show o2 R=_;exact tR) _).setCell (by show o2 R=_;exact tR) _).setCell (by show o2 R=_;exact tR) _).setCell (by show o2 R=_;exact tR) _).setCell (by show o2 R=_;exact tR) _).setCell (by show o2 R=_;exact tR) _).setCell (by show o2 R=_;exact tR) _)
     have hz:R=w.heap.size:=HSR.out.2;have HFin:=Qa (show Row X o2 (51,0) 3 1 (.slice pv i cv) AL.length (Eb P AL)/\Row X o2 (52,0) 3 1 (.slice p2 j c2) nums.length (nums.map zv)/\Ae w.heap.size w X/\Old w.heap.size o2 from by
      have hb':Ae w.heap.size w wr:=by rw[<-hz];exact hb
      refine⟨(hr.Ao k2 (by simp)).ite HLp.out.symm rfl,(hr2.Ao k2 (by simp)).ite HLn.out.symm rfl,((Stp.of_below hb').trans k2).below fun b hb2 e=>?_,by rw[<-hz];exact hO⟩
      have:=hO b (by rw[hz];exact hb2)
      rw[this]at e;simp at e)
     have JX:=Qa jX;have HXe:=Qa hX;clear hr2 hr jN jR hb hO tN tR jX k2 hz hX;go_wp2_with fail;rw[<-HXe.out];have cX:=JX.out.cell;exact bodyPost_ret (v:=Aj #[Ak #[.int .i64 Bt,.int .i64 i,.int .i64 j,.bool wk,.bool fn,.bool fr,.slice pv i cv,.slice p2 j c2],.int .i64 0]) (by simp[results,Tryz.results176,go_sem,cX]) rfl ⟨_,_,o2,rfl,HFin.out⟩
end
end
section
open Go.RowKit Hp
theorem Tz:∀ (l:List CS)(k:Nat)(x:CS),l[k]?=some x->∀ j,j<6->(zc l)[k*6+j]?=[Value.int .i64 x.t,.int .i64 x.b,.int .i64 x.n,.int .i64 x.a.k,.int .i64 x.a.e,.int .i64 x.a.v][j]?
 | [],_,_,h,_,_=>by simp at h
 | z::l,0,x,h,j,hj=>by
  simp at h;subst h;have e:zc (z::l)=[Value.int .i64 z.t,.int .i64 z.b,.int .i64 z.n,.int .i64 z.a.k,.int .i64 z.a.e,.int .i64 z.a.v]++zc l:=rfl;rw[e,Nat.zero_mul,Nat.zero_add,Qm (by simpa using hj)]
 | z::l,k+1,x,h,j,hj=>by
  have ih:=Tz l k x (by simpa using h) j hj
  have e:zc (z::l)=[Value.int .i64 z.t,.int .i64 z.b,.int .i64 z.n,.int .i64 z.a.k,.int .i64 z.a.e,.int .i64 z.a.v]++zc l:=rfl;rw[e,show (k+1)*6+j=6+(k*6+j) from by omega,Ql (by simp),<-ih]
  congr 1;simp
structure YS (w:Aa)(g b:Nat)(x:CS):Prop where
 c0:w.cell? ⟨g,b,none⟩=some (.int .i64 x.t)
 c1:w.cell? ⟨g,b+1,none⟩=some (.int .i64 x.b)
 c2:w.cell? ⟨g,b+2,none⟩=some (.int .i64 x.n)
 c3:w.cell? ⟨g,b+3,none⟩=some (.int .i64 x.a.k)
 c4:w.cell? ⟨g,b+4,none⟩=some (.int .i64 x.a.e)
 c5:w.cell? ⟨g,b+5,none⟩=some (.int .i64 x.a.v)
theorem Row.Xb {w:Aa}{o:Own}{tg:Tag}{e:TypeId}{n cap:Nat}{pa:Option Addr}{l:List CS}(hr:Row w o tg e 6 (.slice pa n cap) n (zc l)){t:Nat}{x:CS}(ht:l[t]?=some x) :
  ∃ g,pa=some ⟨g,0,none⟩/\n<=cap/\YS w g (t*6) x:=by
 have ha:=Tz l t x ht;rcases hr.C1 with ⟨_,h0⟩|⟨g,cap',e',hn⟩
 ·have:=ha 0 (by omega)
  rw[h0]at this;simp at this
 ·injection e' with e1 _ e3
  subst e1 e3;have f:∀ k u,k<6->[Value.int .i64 x.t,.int .i64 x.b,.int .i64 x.n,.int .i64 x.a.k,.int .i64 x.a.e,.int .i64 x.a.v][k]?=some u->w.cell? ⟨g,t*6+k,none⟩=some u:=fun k u hk hu=>by
   have:=hr.own.cells (g:=g) rfl (t*6+k) u ((ha k hk).trans hu);rwa [addr_add]at this
  exact⟨g,rfl,hn,f 0 _ (by omega) rfl,f 1 _ (by omega) rfl,f 2 _ (by omega) rfl,f 3 _ (by omega) rfl,f 4 _ (by omega) rfl,f 5 _ (by omega) rfl⟩
end
end Go.Proofs.YteehgedabdchcaaGreat
