import Derived.Test.YteehgedabdchcaaGreatKbb
set_option linter.all false
set_option maxRecDepth 1000000
set_option maxHeartbeats 0
open Go renaming World->Aa,Calls->Ab,Value->Ac
open Go.RowKit renaming Below->Ae
open Go.Value renaming int->I,tuple->Aj,agg->Ak
open Go.IntKind renaming i64->Z
open Go.Ending renaming returned->O
open Int renaming toNat_of_nonneg->Ad
namespace Go.Proofs.YteehgedabdchcaaGreat
open Go.RowKit Hp
attribute [local go_sem ↓] Go.wp_at_zero Go.wp_at_succ
section
variable {w w' : Aa} {o o' : Own} {y : A6} {S : An} {i : Nat}
def T9 (S:An)(i:Nat)(fi fn:Int)(ra rb:Nat)(mk:Nat)(kd tv:Int)(R:BD):Prop:=
 S.Dg i=true/\Ea S ra/\((mk=0/\kd=8/\tv=0/\R=(S.free i ra))\/(mk=1/\kd=5/\tv=0/\R=(S.put i ra fi.toNat rb)/\Ea S rb/\0<=fi)\/(mk=2/\kd=6/\tv=R.v/\R=(S.read i ra fi.toNat)/\0<=fi)\/(mk=3/\kd=7/\tv=0/\R=(S.write i ra fi.toNat fn)/\0<=fi/\-9223372036854775808<=fn/\fn<=9223372036854775807))
def gy (hS:Aq w o y S) (hI:Inv S) (hb hn a0 a1 a2 a3 a4 a5 s0 s1 s2 s3 s4 s5:Int) (hl:Bool) (A B:Nat) (fi fn:Int) (ra rb:Nat) (mk:Nat) (kd tv:Int) (R:BD) (hkd:T9 S i fi fn ra rb mk kd tv R) (hA:A<6) (hB:B<6) (hra:R6.get ⟨a0,a1,a2,a3,a4,a5⟩ A=ra) (hrb:R6.get ⟨a0,a1,a2,a3,a4,a5⟩ B=rb) (hn0:0<=hn/\hn<=4096) (hb0:0<=hb/\hb<=4096) :
  Ab Tryz.prog 154 #[ptr y.sb,I Z i,Ak #[I Z kd,I Z A,I Z B,I Z fi,I Z fn],Ak #[I Z hb,I Z hn,I Z a0,I Z a1,I Z a2,I Z a3,I Z a4,I Z a5,I Z s0,I Z s1,I Z s2,I Z s3,I Z s4,I Z s5,.bool hl]] w fun e' w'=>e'=O (Aj #[(AE.ended ⟨hb,hn,⟨a0,a1,a2,a3,a4,a5⟩,⟨s0,s1,s2,s3,s4,s5⟩,hl⟩ R.e).v,(ws tv R.e).val])/\Left y R.S o w w':=by
 have gD:∀ (fn:Fn) (first cap:Array Ac) (w:Aa),(Instr.makeFunc fn first cap).run Tryz.prog w=.ok (.func fn first cap) w:=fun _ _ _ _=>rfl
 obtain⟨o1,ho1⟩:∃ o1,o1=ext o w.1.size (y.l.id+1,0):=⟨_,rfl⟩;have h1:=hS.retag (o':=o1) fun b hb=>by rw[ho1];exact qr hb
 have hS0:Stp (qo y) o o1 w w:=by rw[ho1];exact (Stp.refl _ o w).ext _ _ (Qk _)
 have hbx:∀ b,w.1.size<=b->CL y (o1 b):=fun b hb=>by rw[ho1];exact qz hb
 clear ho1 hS;obtain⟨W,hW⟩:=Ja0 ((((((w.alloc (.cells #[ptr y.sb] 24)).alloc (.cells #[I Z kd,I Z A,I Z B,I Z fi,I Z fn] 73)).alloc (.cells #[I Z hb,I Z hn,I Z a0,I Z a1,I Z a2,I Z a3,I Z a4,I Z a5,I Z s0,I Z s1,I Z s2,I Z s3,I Z s4,I Z s5,.bool hl] 58)).alloc (.cells #[I Z 0,I Z 0,I Z 0,I Z 0,I Z 0,I Z 0,I Z 0,I Z 0,I Z 0,I Z 0,I Z 0,I Z 0,I Z 0,I Z 0,.bool false] 58)).alloc (.cells #[I Z 0,I Z 0,I Z 0] 54)).alloc (.cells #[.func (.func 213) #[] #[ptr (w.1.size+1+1)]] 295));have hbW:Ae w.1.size w W:=by rw[hW];exact qc (qc (qc (qc (qc (qc (qd w) _) _) _) _) _) _
 have k0:Al W w.1.size #[ptr y.sb] 24:=by rw[hW];exact (((((Al.new w _ _).alloc _).alloc _).alloc _).alloc _).alloc _
 have k1:Al W (w.1.size+1) #[I Z kd,I Z A,I Z B,I Z fi,I Z fn] 73:=by rw[hW];exact ((((Al.Ap _ _ _ _ _ (by simp) rfl).alloc _).alloc _).alloc _).alloc _
 have k2:Al W (w.1.size+1+1) #[I Z hb,I Z hn,I Z a0,I Z a1,I Z a2,I Z a3,I Z a4,I Z a5,I Z s0,I Z s1,I Z s2,I Z s3,I Z s4,I Z s5,.bool hl] 58:=by rw[hW];exact (((Al.Ap _ _ _ _ _ (by simp) rfl).alloc _).alloc _).alloc _
 have k3:Al W (w.1.size+1+1+1) #[I Z 0,I Z 0,I Z 0,I Z 0,I Z 0,I Z 0,I Z 0,I Z 0,I Z 0,I Z 0,I Z 0,I Z 0,I Z 0,I Z 0,.bool false] 58:=by rw[hW];exact ((Al.Ap _ _ _ _ _ (by simp) rfl).alloc _).alloc _
 have k4:Al W (w.1.size+1+1+1+1) #[I Z 0,I Z 0,I Z 0] 54:=by rw[hW];exact (Al.Ap _ _ _ _ _ (by simp) rfl).alloc _
 have k5:Al W (w.1.size+1+1+1+1+1) #[.func (.func 213) #[] #[ptr (w.1.size+1+1)]] 295:=by rw[hW];exact Al.Ap _ _ _ _ _ (by simp) rfl
 have hSW:=h1.below hbW;have cZ:Stp (qo y) o o1 w W:=hS0.trans (Stp.of_below hbW);have AI:(A:Int)<6:=by omega
 have BI:(B:Int)<6:=by omega
 have HB:=Qa hbx;have HT:=Qa (fun X (j7:Al X (w.1.size+1+1) #[I Z hb,I Z hn,I Z a0,I Z a1,I Z a2,I Z a3,I Z a4,I Z a5,I Z s0,I Z s1,I Z s2,I Z s3,I Z s4,I Z s5,.bool hl] 58)=>mn ⟨hb,hn,⟨a0,a1,a2,a3,a4,a5⟩,⟨s0,s1,s2,s3,s4,s5⟩,hl⟩ tv R.e hn0 hb0 X j7)
 obtain⟨H',lF⟩:=Ja0 (AE.ended ⟨hb,hn,⟨a0,a1,a2,a3,a4,a5⟩,⟨s0,s1,s2,s3,s4,s5⟩,hl⟩ R.e);obtain⟨A',hA'⟩:=Ja0 (ws tv R.e);rw[<-lF,<-hA']at HT ⊢;obtain⟨b',n',⟨r0,r1,r2,r3,r4,r5⟩,⟨p0,p1,p2,p3,p4,p5⟩,hl'⟩:=H';obtain⟨ak,ae,av⟩:=A';have HT:=Qa (fun X j7=>show Ab Tryz.prog 213 #[I Z tv,I Z R.e,ptr (w.1.size+1+1)] X fun e' w'=>e'=O (Aj #[Ak #[I Z b',I Z n',I Z r0,I Z r1,I Z r2,I Z r3,I Z r4,I Z r5,I Z p0,I Z p1,I Z p2,I Z p3,I Z p4,I Z p5,.bool hl'],Ak #[I Z ak,I Z ae,I Z av]])/\Ae X.1.size X w' from HT.out X j7)
 obtain⟨hc,hpa,hkd⟩:=hkd;rcases hkd with ⟨hmk,rfl,rfl,hR⟩|⟨hmk,rfl,rfl,hR,hpb,hfi⟩|⟨hmk,rfl,htv,hR,hfi⟩|⟨hmk,rfl,rfl,hR,hfi,hfn⟩
 all_goals first
  | (have HC:=Qa (fun X o2 (h2:Aq X o2 y S)=>PH h2 hI hc hpa);rw[<-hR]at HC)
  | (have HC:=Qa (fun X o2 (h2:Aq X o2 y S)=>(by have:=Sf h2 hI hc hpa hpb fi.toNat;rw[Ad hfi]at this;exact this));rw[<-hR]at HC)
  | (have HC:=Qa (fun X o2 (h2:Aq X o2 y S)=>(by have:=PL h2 hI hc hpa fi.toNat;rw[Ad hfi]at this;exact this));rw[<-hR,<-htv]at HC;clear htv)
  | (have HC:=Qa (fun X o2 (h2:Aq X o2 y S)=>(by have:=LK h2 hI hc hpa fi.toNat fn hfn;rw[Ad hfi]at this;exact this));rw[<-hR]at HC)
 all_goals
  clear hR lF hA' hc hI hn0 hb0 h1 hS0 hbx hpa;try clear hfi
  try clear hfn
  try clear hpb
  go_enter Tryz.func154,Tryz.ntmps154;go_upto_region 3 with fail;rw[<-hW];clear hW;have cA:=ki (h:=⟨hb,hn,⟨a0,a1,a2,a3,a4,a5⟩,⟨s0,s1,s2,s3,s4,s5⟩,hl⟩) k2 hA;have cB:=ki (h:=⟨hb,hn,⟨a0,a1,a2,a3,a4,a5⟩,⟨s0,s1,s2,s3,s4,s5⟩,hl⟩) k2 hB;rw[hra]at cA;rw[hrb]at cB;have c1:=k1.cell;have l2:=k2.lt;go_quiet (fail);obtain⟨V,hV⟩:=Ja0 (W.drewN nq);have dC:Ae W.1.size W V:=by rw[hV];exact qx (qd _) _
  rw[<-hV];clear hV cA cB c1 l2;replace k0:=k0.below dC k0.lt;replace k1:=k1.below dC k1.lt;replace k2:=k2.below dC k2.lt;replace k3:=k3.below dC k3.lt;replace k4:=k4.below dC k4.lt;replace k5:=k5.below dC k5.lt;replace hSW:=hSW.below dC;replace cZ:=cZ.trans (Stp.of_below dC);have c0:=k0.cell;have c1:=k1.cell;first
   | (have _hz:mk=0:=hmk;go_upto_region 23 with fail)
   | (have _hz:mk=1:=hmk;go_upto_region 17 with fail)
   | (have _hz:mk=2:=hmk;go_upto_region 19 with fail)
   | (have _hz:mk=3:=hmk;go_upto_region 21 with fail)
  have hbD:=qf (qd V);have hSD:=hSW.below hbD;have hsD:=cZ.trans (Stp.of_below hbD);have q0:=k0;have q1:=k1;have q5:=k5;have x0:=q5.cell 0;have x1:=q0.cell 0;have x2:=q1.cell 3;have x3:=q1.cell 4;simp at x0 x1 x2 x3;have tg:∀ (X:Aa) (o2:Own),Stp (qo y) o1 o2 V.drew X->∀ b,w.1.size<=b->b<V.1.size->CL y (o2 b):=fun X o2 hs2 b q1 q2=>by have:=HB.out b q1;rw[<-hs2.tags b q2]at this;exact this
  have nt:∀ b,w.1.size<=b->¬qo y (o1 b):=fun b q1=>pw (HB.out b q1);have n53:(w.1.size+1+1+1+1+1)≠(w.1.size+1+1+1):=by omega
  have n54:(w.1.size+1+1+1+1+1)≠(w.1.size+1+1+1+1):=by omega
  have n03:w.1.size≠(w.1.size+1+1+1):=by omega
  have n04:w.1.size≠(w.1.size+1+1+1+1):=by omega
  have n13:(w.1.size+1)≠(w.1.size+1+1+1):=by omega
  have n14:(w.1.size+1)≠(w.1.size+1+1+1+1):=by omega
  have TG:=Qa tg;have NT:=Qa nt;have HSD:=Qa hSD;have HsD:=Qa hsD;have K0:=Qa k0;have K1:=Qa k1;have K2:=Qa k2;have K3:=Qa k3;have K4:=Qa k4;have K5:=Qa k5;clear c0 c1 q0 q1 q5 k0 k1 k2 k3 k4 k5 tg nt hSD hsD hSW cZ hbD hbW;go_region_held3 (fun w'=>w'.cell? ⟨(w.1.size+1+1+1+1+1),0,none⟩=some (.func (.func 213) #[] #[ptr (w.1.size+1+1)])/\w'.cell? ⟨w.1.size,0,none⟩=some (ptr y.sb)/\w'.cell? ⟨(w.1.size+1),3,none⟩=some (I Z fi)/\w'.cell? ⟨(w.1.size+1),4,none⟩=some (I Z fn)) (first|(refine⟨?_,?_,?_,?_⟩<;>with_reducible assumption)|(refine⟨?_,?_,?_,?_⟩<;>(repeat (refine WI ?_ (by with_reducible assumption)))<;>with_reducible assumption)|go_keep) (first
   | ((first|go_at_call 56|go_at_call 49|go_at_call 24|go_at_call 48);refine (HC.out _ _ HSD.out).mono ?_;rintro e2 w2 ⟨rfl,o2,hS2,hI2,hs2⟩;have q0:=K0.out.Ao (w:=V.drew) hs2 (NT.out _ (by omega));have q1:=K1.out.Ao (w:=V.drew) hs2 (NT.out _ (by omega));have q5:=K5.out.Ao (w:=V.drew) hs2 (NT.out _ (by omega));have y0:=q5.cell 0;have y1:=q0.cell 0;have y2:=q1.cell 3;have y3:=q1.cell 4;simp at y0 y1 y2 y3;clear q0 q1 q5;have j2:=K2.out.Ao (w:=V.drew) hs2 (NT.out _ (by omega)))
   | (go_at_call 213;refine (HT.out _ j2).mono ?_;rintro e5 w5 ⟨rfl,hb5⟩;have q0:=(K0.out.Ao (w:=V.drew) hs2 (NT.out _ (by omega))).below hb5 (K0.out.Ao (w:=V.drew) hs2 (NT.out _ (by omega))).lt;have q1:=(K1.out.Ao (w:=V.drew) hs2 (NT.out _ (by omega))).below hb5 (K1.out.Ao (w:=V.drew) hs2 (NT.out _ (by omega))).lt;have q5:=(K5.out.Ao (w:=V.drew) hs2 (NT.out _ (by omega))).below hb5 (K5.out.Ao (w:=V.drew) hs2 (NT.out _ (by omega))).lt;have v0:=q5.cell 0;have v1:=q0.cell 0;have v2:=q1.cell 3;have v3:=q1.cell 4;simp at v0 v1 v2 v3;clear q0 q1 q5;have m3:=(K3.out.Ao (w:=V.drew) hs2 (NT.out _ (by omega))).below hb5 (K3.out.Ao (w:=V.drew) hs2 (NT.out _ (by omega))).lt;have m4:=(K4.out.Ao (w:=V.drew) hs2 (NT.out _ (by omega))).below hb5 (K4.out.Ao (w:=V.drew) hs2 (NT.out _ (by omega))).lt;have c3:=m3.cell;have z3:=m3.free;have l3:=m3.lt;have c4:=m4.cell;have z4:=m4.free;have l4:=m4.lt;have hres:=Qa (jt m3 m4 (by omega) ⟨b',n',⟨r0,r1,r2,r3,r4,r5⟩,⟨p0,p1,p2,p3,p4,p5⟩,hl'⟩ ⟨ak,ae,av⟩);clear m3 m4)
   | fail)
  all_goals
   go_wp2_with fail;change bodyPost _ _ _ _ _ (jy w5 (w.1.size+1+1+1) (w.1.size+1+1+1+1) ⟨b',n',⟨r0,r1,r2,r3,r4,r5⟩,⟨p0,p1,p2,p3,p4,p5⟩,hl'⟩ ⟨ak,ae,av⟩);have hs5:=(HsD.out.trans hs2).trans (Stp.of_below hb5);have hS5:=hS2.below hb5;have hrs:=Qa (wh hs5 (b6:=(w.1.size+1+1+1)) (b7:=(w.1.size+1+1+1+1)) (by omega) (by omega) ⟨b',n',⟨r0,r1,r2,r3,r4,r5⟩,⟨p0,p1,p2,p3,p4,p5⟩,hl'⟩ ⟨ak,ae,av⟩)
   have fO:=Qa (hS5.bx (ya w5 (w.1.size+1+1+1) (w.1.size+1+1+1+1) (o:=o2) (TG.out _ _ hs2 _ (by omega) K3.out.lt) (TG.out _ _ hs2 _ (by omega) K4.out.lt) ⟨b',n',⟨r0,r1,r2,r3,r4,r5⟩,⟨p0,p1,p2,p3,p4,p5⟩,hl'⟩ ⟨ak,ae,av⟩))
   generalize jy w5 (w.1.size+1+1+1) (w.1.size+1+1+1+1) ⟨b',n',⟨r0,r1,r2,r3,r4,r5⟩,⟨p0,p1,p2,p3,p4,p5⟩,hl'⟩ ⟨ak,ae,av⟩=X at *;exact bodyPost_ret (ze _ _ 8 9 rfl rfl rfl hres.out.1 hres.out.2) rfl ⟨rfl,o2,fO.out,hI2,hrs.out⟩
