import Derived.Test.YteehgedabdchcaaGreatKap
set_option linter.all false
set_option maxRecDepth 1000000
set_option maxHeartbeats 16000000
open Go renaming World->Aa,Calls->Ab,Value->Ac
open Go.RowKit renaming Below->Ae
open Go.Value renaming int->I,tuple->Aj,agg->Ak
open Go.IntKind renaming i64->Z
open Go.Ending renaming returned->O
namespace Go.Proofs.YteehgedabdchcaaGreat
open Go.RowKit Hp
attribute [local go_sem ↓] Go.wp_at_zero Go.wp_at_succ
section
variable {w w' : Aa} {o o' : Own} {y : A3} {S : Al} {i : Nat}
theorem GJ (args:Array Ac)(w:Aa):(callFunc 117 args).run Tryz.prog w=.ok (.enter 117 args) w:=enters_of Tryz.func117 (by kernel_rfl) rfl args w
structure Pk (el se:Int)(hb ub:Bool)(S1 S3 S4 S5:Al)(R:Bv):Prop where
 r1:el≠0->R.S=S1/\R.e=el
 r3:el=0->hb=false->R.S=S3/\R.e=130
 r4:el=0->hb=true->ub=false->R.S=S4/\R.e=130
 r5:el=0->hb=true->ub=true->R.S=S5/\R.e=se
theorem Xx (p:Nat)(el se:Int)(hb ub:Bool)(s:B3)(S1 S3 S4 S5:Al)(R:Bv)(hR:Pk el se hb ub S1 S3 S4 S5 R)(hx3:i<S3.Aw.length)
  (look:Ab Tryz.prog 118 #[ptr y.sb,ptr (y.xb i),I Z p] w fun e w'=>e=O (Aj #[ka s,I Z el])/\Bl y S1 o w w')
  (hold:∀ w1 o1,Ap w1 o1 y S1->Ab Tryz.prog 119 #[ptr y.sb,ptr (y.xb i),I Z p] w1 fun e w'=>e=O (.bool hb)/\Bl y S3 o1 w1 w')
  (hno:hb=false->S3=S1/\∀ w1 o1,Ap w1 o1 y S1->Ab Tryz.prog 119 #[ptr y.sb,ptr (y.xb i),I Z p] w1 fun e w'=>e=O (.bool false)/\Ae w1.heap.size w1 w')
  (DR:∀ w1 o1,Ap w1 o1 y S3->Ab Tryz.prog 120 #[ptr (y.lb i),Ak #[I Z 3,I Z p,I Z 0,I Z 0]] w1 fun e w'=>e=O (.bool ub)/\Bl y S4 o1 w1 w')
  (free:∀ w1 o1,Ap w1 o1 y S4->Ab Tryz.prog 121 #[ptr y.l.h,I Z p,.bool true] w1 fun e w'=>e=O (I Z se)/\Bl y S5 o1 w1 w')
  {b1 b2:Nat}(j1:Am w b1 #[ptr y.sb] 24)(j2:Am w b2 #[I Z p] 3)(t1:o b1=(y.l.id+1,0))(t2:o b2=(y.l.id+1,0)) :
  Ab Tryz.prog 117 #[ptr (y.xb i),ptr b1,ptr b2] w fun e w'=>e=O (Aj #[I Z 0,I Z R.e])/\Bl y R.S o w w':=by
 obtain⟨RS,Rv,Re⟩:=R;have HRR:=Qa hR;have HL:=Qa look;have HH:=Qa hold;have HN:=Qa hno;have HU:=Qa DR;have HF:=Qa free;have HB:=Qa (qm y);have hX2:=Qa (fun w' o' (hS:Ap w' o' y S3)=>(hS.Aw i _ (Al.AV hx3)).AU)
 have c1:=j1.cell;have c2:=j2.cell;obtain⟨sp,sd,wk,fn⟩:=s;clear hR look hold hno DR free hx3;go_enter Tryz.func117,Tryz.ntmps117;go_wp2_with fail;refine HL.out.mono ?_
 rintro e w1⟨rfl,o1,hS1,hs1⟩
 have k1:=j1.Ao hs1 (by rw[t1];exact HB.out)
 have k2:=j2.Ao hs1 (by rw[t2];exact HB.out)
 have u1:o1 b1=(y.l.id+1,0):=(hs1.tags _ j1.lt).trans t1;have u2:o1 b2=(y.l.id+1,0):=(hs1.tags _ j2.lt).trans t2;clear c1 c2 j1 j2 t1 t2;by_cases he:el=0
 ·subst he
  go_upto_region 4 with fail;obtain⟨W,hW⟩:∃ W:Aa,W=w1.alloc (.cells #[I Z sp,I Z sd,.bool wk,.bool fn] 93):=⟨_,rfl⟩;rw[<-hW];have hbW:Ae w1.heap.size w1 W:=by rw[hW];exact qa (qc w1) _
  have k1:=k1.below hbW k1.lt;have k2:=k2.below hbW k2.lt;have hSW:=hS1.below hbW;have HS0:=Qa (hs1.trans (Stp.of_below hbW));clear hW hS1 hs1 hbW;have c1:=k1.cell;have c2:=k2.cell
  cases hb with
  | false =>
   obtain⟨rfl,hn9⟩:=HN.out rfl;have e1:=(HRR.out.r3 rfl rfl);simp only at e1;obtain⟨rfl,rfl⟩:=e1;have HN2:=Qa (fun (e:Later W)=>hn9 e.1 o1 (hSW.below e.2))
   have HSW:=Qa hSW;have l1:=fun (e:Later W)(i:Nat)=>Later.cell k1 e i
   have l2:=fun (e:Later W)(i:Nat)=>Later.cell k2 e i
   clear c1 c2 hn9 HH HU HF hX2 hSW;refine qy (by kernel_rfl) (by kernel_rfl) ?_
   repeat (go_big_quiet_step ((go_at_call 119;exact kj (HN2.out _))))
   refine wpQuiet_nil ?_;intro w8 hW0;obtain⟨⟨W9,hb9⟩,hwt⟩:=hW0;have hwt:w8=W9:=hwt;subst hwt;go_wp2_with fail;go_ret2;exact⟨rfl,o1,HSW.out.below hb9,HS0.out.trans (Stp.of_below hb9)⟩
  | true =>
   have hSW2:=Qa (hSW.below (qe (qc W)));clear hSW
   cases ub with
   | false =>
    have e1:=(HRR.out.r4 rfl rfl rfl);simp only at e1;obtain⟨rfl,rfl⟩:=e1
    go_region_with (first
     | (go_at_call 119;refine (HH.out _ o1 hSW2.out).mono ?_;rintro e w2⟨rfl,o2,hS2,hs2⟩;have m1:=(qi k1).Ao hs2 (by rw[u1];exact HB.out);have m2:=(qi k2).Ao hs2 (by rw[u2];exact HB.out);have d1:=m1.cell;have d2:=m2.cell;obtain⟨vt3,jx3,_⟩:=hX2.out _ _ hS2;unfold zg at jx3;have dx:=jx3.cell)
     | (go_at_call 120;refine (HU.out _ o2 hS2).mono ?_;rintro e w3⟨rfl,o3,hS3,hs3⟩)
     | fail)
    all_goals
     go_wp2_with fail;go_ret2;exact⟨rfl,o3,hS3,((HS0.out.trans (Stp.of_below (qe (qc W)))).trans hs2).trans hs3⟩
   | true =>
    have e1:=(HRR.out.r5 rfl rfl rfl);simp only at e1;obtain⟨rfl,rfl⟩:=e1
    go_region_with (first
     | (go_at_call 119;refine (HH.out _ o1 hSW2.out).mono ?_;rintro e w2⟨rfl,o2,hS2,hs2⟩;have m1:=(qi k1).Ao hs2 (by rw[u1];exact HB.out);have m2:=(qi k2).Ao hs2 (by rw[u2];exact HB.out);have d1:=m1.cell;have d2:=m2.cell;obtain⟨vt3,jx3,_⟩:=hX2.out _ _ hS2;unfold zg at jx3;have dx:=jx3.cell)
     | (go_at_call 120;refine (HU.out _ o2 hS2).mono ?_;rintro e w3⟨rfl,o3,hS3,hs3⟩)
     | fail)
    all_goals
     have n1:=m1.Ao hs3 (by rw[(hs2.tags _ (qi k1).lt).trans u1];exact HB.out)
     have n2:=m2.Ao hs3 (by rw[(hs2.tags _ (qi k2).lt).trans u2];exact HB.out)
     obtain⟨vq3,vl3,vm3,jb3,_⟩:=hS3.AU;unfold qk at jb3;clear d1 d2 dx c1 c2;have d1:=n1.cell;have d2:=n2.cell;have d3:=jb3.cell;go_upto_region 6 with fail;have HF2:=Qa (HF.out w3.drew o3 (hS3.below (qe (qc w3))));go_region_with (first|(go_at_call 121;refine HF2.out.mono ?_;rintro e w4⟨rfl,o4,hS4,hs4⟩)|fail)
     all_goals
      go_wp2_with fail;go_ret2;exact⟨rfl,o4,hS4,(((HS0.out.trans (Stp.of_below (qe (qc W)))).trans hs2).trans hs3).trans ((Stp.of_below (qe (qc w3))).trans hs4)⟩
 ·have e1:=(HRR.out.r1 he)
  simp only at e1;obtain⟨rfl,rfl⟩:=e1;have hbb:(Re != 0)=true:=by rw[bne_iff_ne];exact he
  have hb2:(Re==0)=false:=by rw[Qh];exact he
  clear he;go_wp2_with fail;go_ret2;exact⟨rfl,o1,hS1.alloc _,hs1.alloc _⟩
theorem WK (S:Al)(i p:Nat):Pk (S.AK i p).2.1 ((((S.AK i p).1.A2 i p).1.BC i ⟨3,p,0,0⟩).1.H.AS p true).2 ((S.AK i p).1.A2 i p).2 (((S.AK i p).1.A2 i p).1.BC i ⟨3,p,0,0⟩).2
  (S.AK i p).1 ((S.AK i p).1.A2 i p).1 (((S.AK i p).1.A2 i p).1.BC i ⟨3,p,0,0⟩).1 ((((S.AK i p).1.A2 i p).1.BC i ⟨3,p,0,0⟩).1.h ((((S.AK i p).1.A2 i p).1.BC i ⟨3,p,0,0⟩).1.H.AS p true).1) (S.Ch i p):=by
 refine⟨fun e=>?_,fun e1 e3=>?_,fun e1 e3 e4=>?_,fun e1 e3 e4=>?_⟩<;>unfold Al.Ch
 ·rw[if_pos e];exact⟨rfl,rfl⟩
 ·rw[if_neg (by simpa using e1)];unfold Al.Cd;rw[if_pos e3];exact⟨rfl,rfl⟩
 ·rw[if_neg (by simpa using e1)];unfold Al.Cd;rw[if_neg (by rw[e3];simp),if_pos e4];exact⟨rfl,rfl⟩
 ·rw[if_neg (by simpa using e1)];unfold Al.Cd;rw[if_neg (by rw[e3];simp),if_neg (by rw[e4];simp)];exact⟨rfl,rfl⟩
theorem MD (w:Aa)(a c:Ac)(ta tc:TypeId):Ae w.heap.size w ((w.alloc (.cells #[a] ta)).alloc (.cells #[c] tc))/\Am ((w.alloc (.cells #[a] ta)).alloc (.cells #[c] tc)) w.heap.size #[a] ta/\Am ((w.alloc (.cells #[a] ta)).alloc (.cells #[c] tc)) (w.heap.size+1) #[c] tc:=
 ⟨qa (qa (qc w) _) _,(Am.new w _ _).alloc _,Am.Aq _ _ _ _ _ (by simp) rfl⟩
theorem Y3 (h0:Ap w o y S)(hk:S.ok)(hi:i<S.Aw.length)(p:Nat) :
  Ab Tryz.prog 56 #[ptr y.sb,I Z i,I Z p] w fun e w'=>e=O (I Z (S.free i p).e)/\Bl y (S.free i p).S o w w':=by
 have hmf:∀ (fn:Fn)(first cap:Array Ac)(w:Aa),(Instr.makeFunc fn first cap).run Tryz.prog w=.ok (.func fn first cap) w:=fun _ _ _ _=>rfl
 obtain⟨o1,ho1⟩:∃ o1,o1=ext o w.heap.size (y.l.id+1,0):=⟨_,rfl⟩;have h:=h0.retag (o':=o1) fun b hb=>by rw[ho1];exact qj hb
 have hS0:Stp (qh y) o o1 w w:=by rw[ho1];exact (Stp.refl _ o w).ext _ _ (Qk _)
 have hbx:∀ b,w.heap.size<=b->o1 b=(y.l.id+1,0):=fun b hb=>by rw[ho1];exact qp hb
 clear ho1 h0;obtain⟨W,hW⟩:∃ W:Aa,W=(w.alloc (.cells #[ptr y.sb] 24)).alloc (.cells #[I Z p] 3):=⟨_,rfl⟩;have hbj:=MD w (ptr y.sb) (I Z p) 24 3;rw[<-hW]at hbj;obtain⟨hbW,j1,j2⟩:=hbj;have hlk:=Al.Dd hk hi p;have hl1:=gz S i p;have hi1:i<(S.AK i p).1.Aw.length:=by omega
 have hl2:=uw (S.AK i p).1 i p;have hi2:i<((S.AK i p).1.A2 i p).1.Aw.length:=by omega
 have hu:=Al.Dv (Al.Df hlk hi1 p) hi2 ⟨3,p,0,0⟩ (by simp) (fun h=>by simp at h)
 have HD:=Qa (vx 117 [ptr w.heap.size,ptr (w.heap.size+1)] (h.below hbW) hk hi GJ (S.Ch i p) (fun _=>nc hk hi p)
  (fun _ w1 o2 hb he2 hS=>by
   rw[KY];exact Xx p _ _ _ _ _ _ _ _ _ (S.Ch i p) (WK S i p) hi2 (Rk hS hk hi p) (fun w1 o1 h1=>Rw h1 hlk hi1 p) (fun e=>⟨(rz e).2.2,fun w1 o1 h1=>SH h1 hlk hi1 p e⟩)
    (fun w1 o1 h1=>lu h1 (Al.Df hlk hi1 p) hi2 ⟨3,p,0,0⟩) (fun w1 o1 h1=>m7 h1 hu p true) (j1.below hb j1.lt) (j2.below hb j2.lt) ((he2 _ j1.lt).trans (hbx _ (by omega))) ((he2 _ j2.lt).trans (hbx _ (by omega)))))
 have HS:=Qa (hS0.trans (Stp.of_below hbW));unfold Al.free;generalize S.AH i (S.Ch i p)=R at *;clear h hbW j1 j2 hk hi hlk hl1 hi1 hl2 hi2 hu hbx hS0;go_enter Tryz.func56,Tryz.ntmps56;go_wp2_with fail;rw[<-hW];refine HD.out.mono ?_
 rintro e w2 ⟨rfl,o2,hS2,hs2⟩
 go_wp2_with fail;go_ret;exact⟨rfl,o2,hS2,HS.out.trans hs2⟩
end
section
variable {w w' : Aa} {o o' : Own} {y : A3} {S : Al} {i : Nat}
def Al.alloc (S:Al)(i:Nat)(s:B3):Bv:=S.AH i (S.AM i s)
def Al.Az (S:Al)(i q:Nat):Bv:=S.AH i (S.BK i q)
def Al.load (S:Al)(i p:Nat):Bv:=S.AH i (S.Ca i p)
theorem Y1 (h:Ap w o y S)(hk:S.ok)(hi:i<S.Aw.length)(s:B3)(hs:s.ok)(hwk:s.Az=false)
  {b1 b2:Nat}(j1:Am w b1 #[I Z s.p,I Z s.d,.bool s.Az,.bool s.final] 93)(j2:Am w b2 #[ptr y.sb] 24) :
  Ab Tryz.prog 105 #[ptr (y.xb i),ptr b1,ptr b2] w fun e w'=>e=O (Aj #[I Z (S.AM i s).v,I Z (S.AM i s).e])/\Bl y (S.AM i s).S o w w':=by
 have HR:=Qa (fun w=>cg s hs w)
 have HL:=Qa (fun w' (hw:Ae w.heap.size w w')=>DC (h.below hw) hk hi s hs)
 rw[hwk]at j1;have c1:=j1.cell;have c2:=j2.cell;rw[show ka s=Ak #[I Z s.p,I Z s.d,.bool false,.bool s.final] from by rw[<-hwk]]at HR HL
 show Ab _ _ _ _ fun e w'=>e=O (Aj #[I Z ((S.Bh i s).2.1:Nat),I Z (S.Bh i s).2.2])/\Bl y (S.Bh i s).1 o w w'
 generalize S.Bh i s=R at *;clear h hk hi hs hwk;go_enter Tryz.func105,Tryz.ntmps105;go_wp2_with fail;refine (HR.out _).mono ?_
 rintro e w1⟨rfl,hb1⟩
 have c1:=(j1.below hb1 j1.lt).cell;have c2:=(j2.below hb1 j2.lt).cell;go_wp2_with fail;refine (HL.out _ hb1).mono ?_
 rintro e w2⟨rfl,o2,hS2,hs2⟩
 go_wp2_with fail;go_ret2;exact⟨rfl,o2,hS2,(Stp.of_below hb1).trans hs2⟩
theorem WS (args:Array Ac)(w:Aa):(callFunc 105 args).run Tryz.prog w=.ok (.enter 105 args) w:=enters_of Tryz.func105 (by kernel_rfl) rfl args w
theorem V8 (h:Ap w o y S)(hk:S.ok)(hi:i<S.Aw.length)(s:B3)(hs:s.ok)(hwk:s.Az=false) :
  Ab Tryz.prog 47 #[ptr y.sb,I Z i,ka s] w fun e w'=>e=O (Aj #[I Z (S.alloc i s).v,I Z (S.alloc i s).e])/\Bl y (S.alloc i s).S o w w':=by
 have hmf:∀ (fn:Fn)(first cap:Array Ac)(w:Aa),(Instr.makeFunc fn first cap).run Tryz.prog w=.ok (.func fn first cap) w:=fun _ _ _ _=>rfl
 have HD:=Qa (fun w' b1 b2 (hw:Ae w.heap.size w w')(j1:Am w' b1 #[I Z s.p,I Z s.d,.bool s.Az,.bool s.final] 93)(j2:Am w' b2 #[ptr y.sb] 24) =>
  vx 105 [ptr b1,ptr b2] (h.below hw) hk hi WS (S.AM i s) (fun _=>y8 hk hi hs)
   (fun _ w1 o1 hb _ hS=>Y1 hS hk hi s hs hwk (j1.below hb j1.lt) (j2.below hb j2.lt)))
 unfold Al.alloc;generalize S.AH i (S.AM i s)=R at *;clear h hk hi hs hwk;go_enter Tryz.func47,Tryz.ntmps47;go_wp2_with fail;refine (HD.out _ (w.heap.size+1) w.heap.size (qa (qa (qc w) _) _) (Am.Aq _ _ _ _ _ (by simp) rfl) ((Am.new w _ _).alloc _)).mono ?_
 rintro e w2⟨rfl,o2,hS2,hs2⟩
 go_wp2_with fail;go_ret2;exact⟨rfl,o2,hS2,(Stp.of_below (qa (qa (qc w) _) _)).trans hs2⟩
theorem Yn (q:Nat) (h:Ap w o y S) (hk:S.ok) (hi:i<S.Aw.length)
  {b1 b2:Nat} (j1:Am w b1 #[I Z q] 3) (j2:Am w b2 #[ptr y.sb] 24) (t1:o b1=(y.l.id+1,0)) (t2:o b2=(y.l.id+1,0)) :
  Ab Tryz.prog 259 #[ptr (y.xb i),ptr b1,ptr b2] w fun e w'=>e=O (Aj #[I Z (S.BK i q).v,I Z (S.BK i q).e])/\Bl y (S.BK i q).S o w w':=by
 by_cases h0:q=0
 ·subst h0
  have e1:S.BK i 0=⟨S,0,143⟩:=by unfold Al.BK;rw[if_pos rfl]
  rw[e1];have c1:=j1.cell;have hfin:=Qa h.D3;clear h hk hi j1 j2 e1;go_enter Tryz.func259,Tryz.ntmps259;go_wp2_with fail;go_ret2;exact⟨rfl,hfin.out⟩
 ·have hqb:((q:Int)==0)=false:=by rw[Qh];omega
  obtain⟨vq,vl,vm,jb,_⟩:=h.AU;unfold qk at jb;have HH:=(fun (e:Later w)=>Pu (h.below e.2) hk q)
  have ht1:¬qh y (o b1):=by rw[t1];exact qm y
  have ht2:¬qh y (o b2):=by rw[t2];exact qm y
  have l1:=fun (e:Later w) (i:Nat)=>Later.cell j1 e i
  have l2:=fun (e:Later w) (i:Nat)=>Later.cell j2 e i
  have l5:=fun (e:Later w) (i:Nat)=>Later.cell jb e i
  have c1:=j1.cell;by_cases hr:lk S.H.cur q=none
  ·have e1:S.BK i q=⟨S,0,70⟩:=by unfold Al.BK;rw[if_neg h0,if_pos hr]
   rw[e1];rw[hr]at HH;simp only[Option.isSome_none]at HH;have HH:=Qa HH;have hfin:=Qa (fun W (hW:Ae w.heap.size w W)=>h.Ee hW)
   clear h hk hi e1 h0 hr;go_enter Tryz.func259,Tryz.ntmps259;go_upto_region 3 with fail;refine qy (by kernel_rfl) (by kernel_rfl) ?_
   repeat (go_big_quiet_step ((go_at_call 61;exact kj (HH.out _))))
   refine wpQuiet_nil ?_;intro w8 hW0;obtain⟨⟨W0,hb0⟩,hwt⟩:=hW0;have hwt:w8=W0:=hwt;subst hwt;go_wp2_with fail;go_ret2;exact⟨rfl,hfin.out _ hb0⟩
  ·have hs1:(lk S.H.cur q).isSome=true:=by
    cases hl:lk S.H.cur q with
    | none=>exact absurd hl hr
    | some ob=>rfl
   rw[hs1]at HH;have HH:=Qa HH;have e1:S.BK i q=if (S.Bh i Dt).2.2≠0 then⟨(S.Bh i Dt).1,0,(S.Bh i Dt).2.2⟩ else⟨(S.Bh i Dt).1.h ((S.Bh i Dt).1.H.A9 (S.Bh i Dt).2.1 0 q).1,(S.Bh i Dt).2.1,0⟩:=by unfold Al.BK;rw[if_neg h0,if_neg hr]
   have HL:=Qa (fun W (hW:Ae w.heap.size w W)=>show Ab Tryz.prog 107 #[ptr y.sb,ptr (y.xb i),Ak #[I Z 1,I Z 0,.bool true,.bool false]] W fun e w'=>e=O (Aj #[I Z ((S.Bh i Dt).2.1:Nat),I Z (S.Bh i Dt).2.2])/\Bl y (S.Bh i Dt).1 o W w' from DC (h.below hW) hk hi Dt QX)
   have hk2:=Al.Ex hk hi QX;have HS:=Qa (fun W o2 (h2:Ap W o2 y (S.Bh i Dt).1)=>Sp h2 hk2 (S.Bh i Dt).2.1 0 q)
   generalize S.BK i q=RR at *;generalize S.Bh i Dt=R at *;obtain⟨S2,tp,er⟩:=R;simp only at HL HS e1;have HRR:=Qa e1;clear h hk hi hr h0 hs1 e1 hk2;go_enter Tryz.func259,Tryz.ntmps259;go_upto_region 3 with fail;refine qy (by kernel_rfl) (by kernel_rfl) ?_
   repeat (go_big_quiet_step ((go_at_call 61;exact kj (HH.out _))))
   refine wpQuiet_nil ?_;intro w8 hW0;obtain⟨⟨W0,hb0⟩,hwt⟩:=hW0;have hwt:w8=W0:=hwt;subst hwt;clear l1 l2 l5 c1;have c2:=(j2.below hb0 j2.lt).cell;go_wp2_with fail;refine (HL.out _ hb0).mono ?_
   rintro e w2⟨rfl,o2,hS2,hs2⟩
   have hst:=(Stp.of_below (T:=qh y) (o:=o) hb0).trans hs2;by_cases he:er=0
   ·subst he
    have k1:=j1.Ao hst ht1;have k2:=j2.Ao hst ht2;obtain⟨vq2,vl2,vm2,kb,_⟩:=hS2.AU;unfold qk at kb;clear c2;have c1:=k1.cell;have c2:=k2.cell;have cb:=kb.cell;have HS2:=Qa (HS.out _ _ (hS2.below (qe (qc w2))));go_upto_region 8 with fail;go_still_tail 6,(by kernel_rfl)
    change wpList _ _ _ _ _ w2.drew;go_wp2_with fail;refine HS2.out.mono ?_
    rintro e w3⟨rfl,o3,hS3,hs3⟩
    go_wp2_with fail;go_ret2;rw[HRR.out,if_neg (by simp)]
    exact⟨rfl,o3,hS3,(hst.trans (Stp.of_below (qe (qc w2)))).trans hs3⟩
   ·have HE:=Qa he
    have hbb:(er != 0)=true:=by rw[bne_iff_ne];exact he
    have hb2:(er==0)=false:=by rw[Qh];exact he
    clear he;go_wp2_with fail;go_ret2;rw[HRR.out,if_pos HE.out];exact⟨rfl,o2,hS2,hst⟩
theorem F3 (args:Array Ac)(w:Aa):(callFunc 259 args).run Tryz.prog w=.ok (.enter 259 args) w:=enters_of Tryz.func259 (by kernel_rfl) rfl args w
theorem XZ (h0:Ap w o y S)(hk:S.ok)(hi:i<S.Aw.length)(q:Nat) :
  Ab Tryz.prog 217 #[ptr y.sb,I Z i,I Z q] w fun e w'=>e=O (Aj #[I Z (S.Az i q).v,I Z (S.Az i q).e])/\Bl y (S.Az i q).S o w w':=by
 have hmf:∀ (fn:Fn)(first cap:Array Ac)(w:Aa),(Instr.makeFunc fn first cap).run Tryz.prog w=.ok (.func fn first cap) w:=fun _ _ _ _=>rfl
 obtain⟨o1,ho1⟩:∃ o1,o1=ext o w.heap.size (y.l.id+1,0):=⟨_,rfl⟩;have h:=h0.retag (o':=o1) fun b hb=>by rw[ho1];exact qj hb
 have hS0:Stp (qh y) o o1 w w:=by rw[ho1];exact (Stp.refl _ o w).ext _ _ (Qk _)
 have hbx:∀ b,w.heap.size<=b->o1 b=(y.l.id+1,0):=fun b hb=>by rw[ho1];exact qp hb
 clear ho1 h0;obtain⟨W,hW⟩:∃ W:Aa,W=(w.alloc (.cells #[ptr y.sb] 24)).alloc (.cells #[I Z q] 3):=⟨_,rfl⟩;have hbj:=MD w (ptr y.sb) (I Z q) 24 3;rw[<-hW]at hbj;obtain⟨hbW,j1,j2⟩:=hbj;have HD:=Qa (vx 259 [ptr (w.heap.size+1),ptr w.heap.size] (h.below hbW) hk hi F3 (S.BK i q) (fun _=>nk hk hi q)
  (fun _ w1 o2 hb he2 hS=>Yn q hS hk hi (j2.below hb j2.lt) (j1.below hb j1.lt) ((he2 _ j2.lt).trans (hbx _ (by omega))) ((he2 _ j1.lt).trans (hbx _ (by omega)))))
 have HS:=Qa (hS0.trans (Stp.of_below hbW));unfold Al.Az;generalize S.AH i (S.BK i q)=R at *;clear h hbW j1 j2 hk hi hbx hS0;go_enter Tryz.func217,Tryz.ntmps217;go_wp2_with fail;rw[<-hW];refine HD.out.mono ?_
 rintro e w2⟨rfl,o2,hS2,hs2⟩
 go_wp2_with fail;go_ret2;exact⟨rfl,o2,hS2,HS.out.trans hs2⟩
theorem GF (args:Array Ac)(w:Aa):(callFunc 260 args).run Tryz.prog w=.ok (.enter 260 args) w:=enters_of Tryz.func260 (by kernel_rfl) rfl args w
theorem qmu (h:Ap w o y S) (hk:S.ok) (hi:i<S.Aw.length) (p:Nat)
  {b1 b2:Nat} (j1:Am w b1 #[ptr y.sb] 24) (j2:Am w b2 #[I Z p] 3) (t1:o b1=(y.l.id+1,0)) (t2:o b2=(y.l.id+1,0)) :
  Ab Tryz.prog 260 #[ptr (y.xb i),ptr b1,ptr b2] w fun e w'=>e=O (Aj #[I Z (S.Ca i p).v,I Z (S.Ca i p).e])/\Bl y (S.Ca i p).S o w w':=by
 have HL:=Qa (Rk h hk hi p);have hk1:=Al.Dd hk hi p;have hl1:=gz S i p;have hi1:i<(S.AK i p).1.Aw.length:=by omega
 have HG:=Qa (fun w1 o1 (h1:Ap w1 o1 y (S.AK i p).1)=>GV h1 hk1 p 0)
 have hk2:((S.AK i p).1.h ((S.AK i p).1.H.A5 p 0).1).ok:=Al.CV hk1 p 0;have HK:=Qa (fun w1 o1 (h1:Ap w1 o1 y ((S.AK i p).1.h ((S.AK i p).1.H.A5 p 0).1))=>Ns h1 hk2 hi1 ((S.AK i p).1.H.A5 p 0).2.1)
 have HX:=Qa (fun w1 o1 (h1:Ap w1 o1 y ((S.AK i p).1.h ((S.AK i p).1.H.A5 p 0).1))=>(h1.Aw i _ (Al.AV hi1)).AU)
 have HB:=Qa (qm y);obtain⟨RR,hRR⟩:∃ RR,RR=S.Ca i p:=⟨_,rfl⟩;rw[<-hRR];unfold Al.Ca Al.CC at hRR;generalize S.AK i p=L at *;obtain⟨S1,el,sp,sd,sw,sf⟩:=L;simp only at HL HG HK HX hRR;have c1:=j1.cell;have c2:=j2.cell;generalize S1.H.A5 p 0=G at *;obtain⟨H2,q,eg⟩:=G;simp only at HG HK HX hRR;change Hid (∀ w1 o1,Ap w1 o1 y S1->Ab _ _ _ _ fun e w'=>_/\Bl y (S1.h H2) o1 w1 w') at HG
 generalize S1.h H2=S2 at *;have HRR:=Qa hRR;clear h hk hi hk1 hl1 hi1 hk2 hRR;by_cases he:el=0
 ·subst he
  cases sw with
  | false =>
   rw[HRR.out,if_neg (by simp),if_pos rfl]
   go_enter Tryz.func260,Tryz.ntmps260;go_wp2_with fail;refine HL.out.mono ?_
   rintro e w1 ⟨rfl,o1,hS1,hs1⟩
   go_wp2_with fail;go_ret2;exact⟨rfl,o1,hS1.alloc _,hs1.alloc _⟩
  | true =>
   go_enter Tryz.func260,Tryz.ntmps260;go_wp2_with fail;refine HL.out.mono ?_
   rintro e w1 ⟨rfl,o1,hS1,hs1⟩
   obtain⟨W1,hW1⟩:∃ W:Aa,W=w1.alloc (.cells #[I Z sp,I Z sd,.bool true,.bool sf] 93):=⟨_,rfl⟩;have hb1:Ae w1.heap.size w1 W1:=by rw[hW1];exact qa (qc w1) _
   have hSW:=hS1.below hb1;have hsW:=hs1.trans (Stp.of_below (T:=qh y) (o:=o1) hb1);have k1:=(j1.Ao hs1 (by rw[t1];exact HB.out)).below hb1 (j1.Ao hs1 (by rw[t1];exact HB.out)).lt
   have k2:=(j2.Ao hs1 (by rw[t2];exact HB.out)).below hb1 (j2.Ao hs1 (by rw[t2];exact HB.out)).lt
   have u1:o1 b1=(y.l.id+1,0):=(hs1.tags _ j1.lt).trans t1;have u2:o1 b2=(y.l.id+1,0):=(hs1.tags _ j2.lt).trans t2;obtain⟨vq,vl,vm,kb,_⟩:=hSW.AU;unfold qk at kb;clear c1 c2 hS1 hs1 hb1;go_upto_region 6 with fail;rw[<-hW1];clear hW1;have c1:W1.cell? ⟨b1,0,none⟩=some (ptr y.sb):=k1.cell 0;have c2:W1.cell? ⟨b2,0,none⟩=some (I Z p):=k2.cell 0;have cb:W1.cell? ⟨y.sb,0,none⟩=some (ptr y.l.h):=kb.cell 0;have HG2:=Qa (HG.out _ _ (hSW.below (qe (qc W1))));have HsW:=Qa hsW
   have HKc:=Qa (fun (w2:Aa) (o2:Own) (hs2:Stp (qh y) o1 o2 W1.drew w2) =>
    show w2.cell? ⟨b1,0,none⟩=some (ptr y.sb)/\w2.cell? ⟨b2,0,none⟩=some (I Z p) from
     ⟨((qi k1).Ao hs2 (by rw[u1];exact HB.out)).cell 0,((qi k2).Ao hs2 (by rw[u2];exact HB.out)).cell 0⟩)
   have HSb:=Qa (fun (w2:Aa) (o2:Own) (h2:Ap w2 o2 y S2)=>show w2.cell? ⟨y.sb,0,none⟩=some (ptr y.l.h) from by
    obtain⟨_,_,_,jb2,_⟩:=h2.AU;exact jb2.cell 0)
   clear hSW hsW HL k1 k2 kb u1 u2
   go_region_held3 (fun w'=>w'.cell? ⟨b1,0,none⟩=some (ptr y.sb)/\w'.cell? ⟨b2,0,none⟩=some (I Z p)/\w'.cell? ⟨y.sb,0,none⟩=some (ptr y.l.h)) (first|exact⟨by assumption,by assumption,by assumption⟩|go_keep) (first
    | (go_at_call 112;refine HG2.out.mono ?_;rintro e w2 ⟨rfl,o2,hS2,hs2⟩;obtain⟨d1,d2⟩:=HKc.out _ _ hs2;have db:=HSb.out _ _ hS2)
    | fail)
   all_goals
    have hst:=HsW.out.trans ((Stp.of_below (qe (qc W1))).trans hs2);by_cases heg:eg=0
    ·subst heg
     by_cases h0:q=0
     ·subst h0
      go_wp2_with fail;go_ret2;rw[HRR.out,if_neg (by simp),if_neg (by simp),if_neg (by simp),if_pos (by simp)]
      exact⟨rfl,o2,hS2,hst⟩
     ·have HE:=Qa h0
      have hqb:((q:Int) != 0)=true:=by rw[bne_iff_ne];omega
      have HK2:=Qa (HK.out _ _ hS2);obtain⟨vt,jx,_⟩:=HX.out _ _ hS2;unfold zg at jx;have cx:=jx.cell;clear HK;generalize wv (S2.t i).log.keeps q (S2.t i).log.mr=nb at *;clear h0
      cases nb
      all_goals
       go_wp2_with fail;refine HK2.out.mono ?_
       rintro e w3 ⟨rfl,o3,hS3,hs3⟩
       go_wp2_with fail;go_ret2;rw[HRR.out,if_neg (by simp),if_neg (by simp),if_neg (by simp),if_neg HE.out]
       simp only[if_true,Bool.false_eq_true,if_false];exact⟨rfl,o3,hS3,hst.trans hs3⟩
    ·have heI:((eg:Nat):Int)≠0:=by omega
     have HE:=Qa heg;have hbb:((eg:Int) != 0)=true:=by rw[bne_iff_ne];exact heI
     have hb2:((eg:Int)==0)=false:=by rw[Qh];exact heI
     clear heI heg;go_wp2_with fail;go_ret2;rw[HRR.out,if_neg (by simp),if_neg (by simp),if_pos HE.out]
     exact⟨rfl,o2,hS2,hst⟩
 ·rw[HRR.out,if_pos he]
  have hbb:(el != 0)=true:=by rw[bne_iff_ne];exact he
  have hb2:(el==0)=false:=by rw[Qh];exact he
  clear he;go_enter Tryz.func260,Tryz.ntmps260;go_wp2_with fail;refine HL.out.mono ?_
  rintro e w1 ⟨rfl,o1,hS1,hs1⟩
  go_wp2_with fail;go_ret2;exact⟨rfl,o1,hS1.alloc _,hs1.alloc _⟩
theorem WE (h0:Ap w o y S)(hk:S.ok)(hi:i<S.Aw.length)(p:Nat) :
  Ab Tryz.prog 218 #[ptr y.sb,I Z i,I Z p] w fun e w'=>e=O (Aj #[I Z (S.load i p).v,I Z (S.load i p).e])/\Bl y (S.load i p).S o w w':=by
 have hmf:∀ (fn:Fn)(first cap:Array Ac)(w:Aa),(Instr.makeFunc fn first cap).run Tryz.prog w=.ok (.func fn first cap) w:=fun _ _ _ _=>rfl
 obtain⟨o1,ho1⟩:∃ o1,o1=ext o w.heap.size (y.l.id+1,0):=⟨_,rfl⟩;have h:=h0.retag (o':=o1) fun b hb=>by rw[ho1];exact qj hb
 have hS0:Stp (qh y) o o1 w w:=by rw[ho1];exact (Stp.refl _ o w).ext _ _ (Qk _)
 have hbx:∀ b,w.heap.size<=b->o1 b=(y.l.id+1,0):=fun b hb=>by rw[ho1];exact qp hb
 clear ho1 h0;obtain⟨W,hW⟩:∃ W:Aa,W=(w.alloc (.cells #[ptr y.sb] 24)).alloc (.cells #[I Z p] 3):=⟨_,rfl⟩;have hbj:=MD w (ptr y.sb) (I Z p) 24 3;rw[<-hW]at hbj;obtain⟨hbW,j1,j2⟩:=hbj;have HD:=Qa (vx 260 [ptr w.heap.size,ptr (w.heap.size+1)] (h.below hbW) hk hi GF (S.Ca i p) (fun _=>br hk hi p)
  (fun _ w1 o2 hb he2 hS=>qmu hS hk hi p (j1.below hb j1.lt) (j2.below hb j2.lt) ((he2 _ j1.lt).trans (hbx _ (by omega))) ((he2 _ j2.lt).trans (hbx _ (by omega)))))
 have HS:=Qa (hS0.trans (Stp.of_below hbW));unfold Al.load;generalize S.AH i (S.Ca i p)=R at *;clear h hbW j1 j2 hk hi hbx hS0;go_enter Tryz.func218,Tryz.ntmps218;go_wp2_with fail;rw[<-hW];refine HD.out.mono ?_
 rintro e w2⟨rfl,o2,hS2,hs2⟩
 go_wp2_with fail;go_ret2;exact⟨rfl,o2,hS2,HS.out.trans hs2⟩
end
end Go.Proofs.YteehgedabdchcaaGreat
