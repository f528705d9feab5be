import Derived.Test.YteehgedabdchcaaGreatKbb
set_option linter.all false
set_option maxRecDepth 1000000
set_option maxHeartbeats 0
open Go renaming World->Aa,Calls->Ab,Value->Ac
open Go.RowKit renaming Below->Ae
open Go.Value renaming int->I,tuple->Aj,agg->Ak
open Go.IntKind renaming i64->Z
open Go.Ending renaming returned->O
open Int renaming toNat_of_nonneg->Ad
namespace Go.Proofs.YteehgedabdchcaaGreat
open Go.RowKit Hp
attribute [local go_sem ↓] Go.wp_at_zero Go.wp_at_succ
section
variable {w w' : Aa} {o o' : Own} {y : A6} {S : An} {i : Nat}
def Six (S:An)(i:Nat)(fi fn:Int)(rb:Nat)(kd:Int)(R:BD):Prop:=
 S.Dg i=true/\((kd=1/\R=(S.alloc i ⟨fi.toNat,fn.toNat,false,false⟩)/\(0<=fi/\fi<=4)/\0<=fn/\fn<=4)\/(kd=2/\R=(S.alloc i ⟨fi.toNat,fn.toNat,false,true⟩)/\(0<=fi/\fi<=4)/\0<=fn/\fn<=4)\/(kd=3/\R=(S.Az i rb)/\Ea S rb)\/(kd=4/\R=(S.get i rb fi.toNat)/\Ea S rb/\0<=fi)\/(kd=9/\R=(S.load i rb)/\Ea S rb)\/(kd=10/\R=(S.take i)))
def uc (hS:Aq w o y S) (hI:Inv S) (hb hn a0 a1 a2 a3 a4 a5 s0 s1 s2 s3 s4 s5:Int) (hl:Bool) (A B:Nat) (fi fn:Int) (ra rb:Nat) (kd:Int) (R:BD) (hkd:Six S i fi fn rb kd R)
  (hp:R.e=0->∃ p:Nat,R.v=p/\Ea R.S p) (hA:A<6) (hB:B<6) (hra:R6.get ⟨a0,a1,a2,a3,a4,a5⟩ A=ra) (hrb:R6.get ⟨a0,a1,a2,a3,a4,a5⟩ B=rb) (hn0:0<=hn/\hn<=4096) (hb0:0<=hb/\hb<=4096) :
  Ab Tryz.prog 154 #[ptr y.sb,I Z i,Ak #[I Z kd,I Z A,I Z B,I Z fi,I Z fn],Ak #[I Z hb,I Z hn,I Z a0,I Z a1,I Z a2,I Z a3,I Z a4,I Z a5,I Z s0,I Z s1,I Z s2,I Z s3,I Z s4,I Z s5,.bool hl]] w fun e' w'=>e'=O (Aj #[(AE.Pj ⟨hb,hn,⟨a0,a1,a2,a3,a4,a5⟩,⟨s0,s1,s2,s3,s4,s5⟩,hl⟩ A R.v R.e).v,(ED (R.S.Cw R.v.toNat) R.e).val])/\Left y R.S o w w':=by
 have gD:∀ (fn:Fn) (first cap:Array Ac) (w:Aa),(Instr.makeFunc fn first cap).run Tryz.prog w=.ok (.func fn first cap) w:=fun _ _ _ _=>rfl
 obtain⟨o1,ho1⟩:∃ o1,o1=ext o w.1.size (y.l.id+1,0):=⟨_,rfl⟩;have h1:=hS.retag (o':=o1) fun b hb=>by rw[ho1];exact qr hb
 have hS0:Stp (qo y) o o1 w w:=by rw[ho1];exact (Stp.refl _ o w).ext _ _ (Qk _)
 have hbx:∀ b,w.1.size<=b->CL y (o1 b):=fun b hb=>by rw[ho1];exact qz hb
 clear ho1 hS;obtain⟨W,hW⟩:=Ja0 ((((((w.alloc (.cells #[ptr y.sb] 24)).alloc (.cells #[I Z kd,I Z A,I Z B,I Z fi,I Z fn] 73)).alloc (.cells #[I Z hb,I Z hn,I Z a0,I Z a1,I Z a2,I Z a3,I Z a4,I Z a5,I Z s0,I Z s1,I Z s2,I Z s3,I Z s4,I Z s5,.bool hl] 58)).alloc (.cells #[I Z 0,I Z 0,I Z 0,I Z 0,I Z 0,I Z 0,I Z 0,I Z 0,I Z 0,I Z 0,I Z 0,I Z 0,I Z 0,I Z 0,.bool false] 58)).alloc (.cells #[I Z 0,I Z 0,I Z 0] 54)).alloc (.cells #[.func (.func 213) #[] #[ptr (w.1.size+1+1)]] 295));have hbW:Ae w.1.size w W:=by rw[hW];exact qc (qc (qc (qc (qc (qc (qd w) _) _) _) _) _) _
 have k0:Al W w.1.size #[ptr y.sb] 24:=by rw[hW];exact (((((Al.new w _ _).alloc _).alloc _).alloc _).alloc _).alloc _
 have k1:Al W (w.1.size+1) #[I Z kd,I Z A,I Z B,I Z fi,I Z fn] 73:=by rw[hW];exact ((((Al.Ap _ _ _ _ _ (by simp) rfl).alloc _).alloc _).alloc _).alloc _
 have k2:Al W (w.1.size+1+1) #[I Z hb,I Z hn,I Z a0,I Z a1,I Z a2,I Z a3,I Z a4,I Z a5,I Z s0,I Z s1,I Z s2,I Z s3,I Z s4,I Z s5,.bool hl] 58:=by rw[hW];exact (((Al.Ap _ _ _ _ _ (by simp) rfl).alloc _).alloc _).alloc _
 have k3:Al W (w.1.size+1+1+1) #[I Z 0,I Z 0,I Z 0,I Z 0,I Z 0,I Z 0,I Z 0,I Z 0,I Z 0,I Z 0,I Z 0,I Z 0,I Z 0,I Z 0,.bool false] 58:=by rw[hW];exact ((Al.Ap _ _ _ _ _ (by simp) rfl).alloc _).alloc _
 have k4:Al W (w.1.size+1+1+1+1) #[I Z 0,I Z 0,I Z 0] 54:=by rw[hW];exact (Al.Ap _ _ _ _ _ (by simp) rfl).alloc _
 have k5:Al W (w.1.size+1+1+1+1+1) #[.func (.func 213) #[] #[ptr (w.1.size+1+1)]] 295:=by rw[hW];exact Al.Ap _ _ _ _ _ (by simp) rfl
 have hSW:=h1.below hbW;have cZ:Stp (qo y) o o1 w W:=hS0.trans (Stp.of_below hbW);have AI:(A:Int)<6:=by omega
 have BI:(B:Int)<6:=by omega
 have HB:=Qa hbx;have HL:=Qa (fun X o2 (h2:Aq X o2 y R.S) (hI2:Inv R.S) (j10:Al X (w.1.size+1+1+1+1+1) #[.func (.func 213) #[] #[ptr (w.1.size+1+1)]] 295) (j7:Al X (w.1.size+1+1) #[I Z hb,I Z hn,I Z a0,I Z a1,I Z a2,I Z a3,I Z a4,I Z a5,I Z s0,I Z s1,I Z s2,I Z s3,I Z s4,I Z s5,.bool hl] 58) (j6:Al X (w.1.size+1) #[I Z kd,I Z A,I Z B,I Z fi,I Z fn] 73) (j4:Al X w.1.size #[ptr y.sb] 24) (t7:CL y (o2 (w.1.size+1+1)))=>MB R h2 hI2.ok ⟨hb,hn,⟨a0,a1,a2,a3,a4,a5⟩,⟨s0,s1,s2,s3,s4,s5⟩,hl⟩ ⟨kd,A,B,fi,fn⟩ hp hA hn0 hb0 j10 j7 j6 j4 t7 (by omega) (by omega))
 obtain⟨H',lF⟩:=Ja0 (AE.Pj ⟨hb,hn,⟨a0,a1,a2,a3,a4,a5⟩,⟨s0,s1,s2,s3,s4,s5⟩,hl⟩ A R.v R.e);obtain⟨A',hA'⟩:=Ja0 (ED (R.S.Cw R.v.toNat) R.e);rw[<-lF,<-hA'];have HL:=Qa (fun X o2 (h2:Aq X o2 y R.S) (hI2:Inv R.S) j10 j7 j6 j4 t7=>by have:=HL.out X o2 h2 hI2 j10 j7 j6 j4 t7;simp only at this;rw[<-lF,<-hA']at this;exact this)
 obtain⟨b',n',⟨r0,r1,r2,r3,r4,r5⟩,⟨p0,p1,p2,p3,p4,p5⟩,hl'⟩:=H';obtain⟨ak,ae,av⟩:=A';have HL:=Qa (fun X o2 (h2:Aq X o2 y R.S) (hI2:Inv R.S) j10 j7 j6 j4 t7=>show Ab Tryz.prog 215 #[I Z R.v,I Z R.e,ptr (w.1.size+1+1+1+1+1),ptr (w.1.size+1+1),ptr (w.1.size+1),ptr w.1.size] X fun e' w'=>e'=O (Aj #[Ak #[I Z b',I Z n',I Z r0,I Z r1,I Z r2,I Z r3,I Z r4,I Z r5,I Z p0,I Z p1,I Z p2,I Z p3,I Z p4,I Z p5,.bool hl'],Ak #[I Z ak,I Z ae,I Z av]])/\Wr (w.1.size+1+1) X w' from HL.out X o2 h2 hI2 j10 j7 j6 j4 t7)
 obtain⟨hc,hkd⟩:=hkd;rcases hkd with ⟨rfl,hR,hfi,hfn⟩|⟨rfl,hR,hfi,hfn⟩|⟨rfl,hR,hpb⟩|⟨rfl,hR,hpb,hfi⟩|⟨rfl,hR,hpb⟩|⟨rfl,hR⟩
 all_goals first
  | (have HC:=Qa (fun X o2 (h2:Aq X o2 y S)=>(by have:=qmz h2 hI hc ⟨fi.toNat,fn.toNat,false,false⟩ ⟨by show fi.toNat<=8;omega,by show fn.toNat<=8;omega,fun h=>by cases h⟩ rfl ;unfold kw at this;simp only at this;rw[Ad hfi.1,Ad hfn.1]at this;exact this));rw[<-hR]at HC)
  | (have HC:=Qa (fun X o2 (h2:Aq X o2 y S)=>(by have:=qmz h2 hI hc ⟨fi.toNat,fn.toNat,false,true⟩ ⟨by show fi.toNat<=8;omega,by show fn.toNat<=8;omega,fun h=>by cases h⟩ rfl ;unfold kw at this;simp only at this;rw[Ad hfi.1,Ad hfn.1]at this;exact this));rw[<-hR]at HC)
  | (have HC:=Qa (fun X o2 (h2:Aq X o2 y S)=>PN h2 hI hc hpb );rw[<-hR]at HC)
  | (have HC:=Qa (fun X o2 (h2:Aq X o2 y S)=>(by have:=Se h2 hI hc hpb fi.toNat;rw[Ad hfi]at this;exact this));rw[<-hR]at HC)
  | (have HC:=Qa (fun X o2 (h2:Aq X o2 y S)=>PK h2 hI hc hpb);rw[<-hR]at HC)
  | (have HC:=Qa (fun X o2 (h2:Aq X o2 y S)=>PM h2 hI hc);rw[<-hR]at HC)
 all_goals
  clear hR lF hA' hp hc hI hn0 hb0 h1 hS0 hbx;try clear hfi
  try clear hfn
  try clear hpb
  go_enter Tryz.func154,Tryz.ntmps154;go_upto_region 3 with fail;rw[<-hW];clear hW;have cA:=ki (h:=⟨hb,hn,⟨a0,a1,a2,a3,a4,a5⟩,⟨s0,s1,s2,s3,s4,s5⟩,hl⟩) k2 hA;have cB:=ki (h:=⟨hb,hn,⟨a0,a1,a2,a3,a4,a5⟩,⟨s0,s1,s2,s3,s4,s5⟩,hl⟩) k2 hB;rw[hra]at cA;rw[hrb]at cB;have c1:=k1.cell;have l2:=k2.lt;go_quiet (fail);obtain⟨V,hV⟩:=Ja0 (W.drewN nq);have dC:Ae W.1.size W V:=by rw[hV];exact qx (qd _) _
  rw[<-hV];clear hV cA cB c1 l2;replace k0:=k0.below dC k0.lt;replace k1:=k1.below dC k1.lt;replace k2:=k2.below dC k2.lt;replace k3:=k3.below dC k3.lt;replace k4:=k4.below dC k4.lt;replace k5:=k5.below dC k5.lt;replace hSW:=hSW.below dC;replace cZ:=cZ.trans (Stp.of_below dC);have c0:=k0.cell;have c1:=k1.cell;go_wp2_with fail;refine (HC.out _ _ hSW).mono ?_;rintro e2 w2 ⟨rfl,o2,hS2,hI2,hs2⟩;have tg:∀ b,w.1.size<=b->b<V.1.size->CL y (o2 b):=fun b q1 q2=>by have:=HB.out b q1;rw[<-hs2.tags b q2]at this;exact this
  have nt:∀ b,w.1.size<=b->¬qo y (o1 b):=fun b q1=>pw (HB.out b q1);have Aqb:=k3.lt;have Aqc:=k4.lt;have t2:=tg (w.1.size+1+1) (by omega) k2.lt
  replace k0:=k0.Ao hs2 (nt _ (by omega))
  replace k1:=k1.Ao hs2 (nt _ (by omega))
  replace k2:=k2.Ao hs2 (nt _ (by omega))
  replace k3:=k3.Ao hs2 (nt _ (by omega))
  replace k4:=k4.Ao hs2 (nt _ (by omega))
  replace k5:=k5.Ao hs2 (nt _ (by omega))
  have hs3:=cZ.trans hs2;clear c0 c1;have HQ:=Qa (HL.out _ _ hS2 hI2 k5 k2 k1 k0 t2);clear HC HL tg nt;go_wp2_with fail;refine HQ.out.mono ?_;rintro e3 w3 ⟨rfl,hw3⟩;have dB:=hS2.bx (Stp.BE hw3 t2);have hs4:=hs3.CK hw3 (by omega)
  have m3:=k3.wr hw3 (by omega)
  have m4:=k4.wr hw3 (by omega)
  have c3:=m3.cell;have z3:=m3.free;have l3:=m3.lt;have c4:=m4.cell;have z4:=m4.free;have l4:=m4.lt;have hres:=Qa (jt m3 m4 (by omega) ⟨b',n',⟨r0,r1,r2,r3,r4,r5⟩,⟨p0,p1,p2,p3,p4,p5⟩,hl'⟩ ⟨ak,ae,av⟩)
  have hrs:=Qa (wh hs4 (b6:=(w.1.size+1+1+1)) (b7:=(w.1.size+1+1+1+1)) (by omega) (by omega) ⟨b',n',⟨r0,r1,r2,r3,r4,r5⟩,⟨p0,p1,p2,p3,p4,p5⟩,hl'⟩ ⟨ak,ae,av⟩)
  have fO:=Qa (dB.bx (ya w3 (w.1.size+1+1+1) (w.1.size+1+1+1+1) (o:=o2) (by show CL y (o2 _);have:=HB.out (w.1.size+1+1+1) (by omega);rw[<-hs2.tags _ Aqb]at this;exact this) (by show CL y (o2 _);have:=HB.out (w.1.size+1+1+1+1) (by omega);rw[<-hs2.tags _ Aqc]at this;exact this) ⟨b',n',⟨r0,r1,r2,r3,r4,r5⟩,⟨p0,p1,p2,p3,p4,p5⟩,hl'⟩ ⟨ak,ae,av⟩))
  clear k0 k1 k2 k3 k4 k5 m3 m4 hw3 hs4 hs3 dB cZ hSW HQ;go_wp2_with fail;change bodyPost _ _ _ _ _ (jy w3 (w.1.size+1+1+1) (w.1.size+1+1+1+1) ⟨b',n',⟨r0,r1,r2,r3,r4,r5⟩,⟨p0,p1,p2,p3,p4,p5⟩,hl'⟩ ⟨ak,ae,av⟩);generalize jy w3 (w.1.size+1+1+1) (w.1.size+1+1+1+1) ⟨b',n',⟨r0,r1,r2,r3,r4,r5⟩,⟨p0,p1,p2,p3,p4,p5⟩,hl'⟩ ⟨ak,ae,av⟩=X at *;exact bodyPost_ret (ze _ _ 8 9 rfl rfl rfl hres.out.1 hres.out.2) rfl ⟨rfl,o2,fO.out,hI2,hrs.out⟩
