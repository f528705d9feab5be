import Derived.Test.YteehgedabdchcaaGreatKbb
set_option linter.all false
set_option maxRecDepth 1000000
set_option maxHeartbeats 0
open Go renaming World->Aa,Calls->Ab,Value->Ac
open Go.RowKit renaming Below->Ae
open Go.Value renaming int->I,slice->Ah,tuple->Aj,agg->Ak
open Go.IntKind renaming i64->Z
open Go.Ending renaming returned->O
open List renaming length_drop->Ad,drop_left'->aa,append_assoc->af,take_left'->ag
open And renaming intro->Ai
open Go.Proofs.Tryz
open Go.Proofs.Tryz renaming prog->ARt
open Go.Obj renaming cells->ARu
namespace Go.Proofs.YteehgedabdchcaaGreat
section
open Go.RowKit Hp
attribute [local go_sem ↓] Go.wp_at_zero Go.wp_at_succ
section
variable {w w' : Aa} {o o' : Own} {y : A6} {S : An} {i : Nat}
def YB (hS:Aq w o y S) (hI:Inv S) (hb hn a0 a1 a2 a3 a4 a5 s0 s1 s2 s3 s4 s5:Int) (hl:Bool) (A B:Nat) (fi fn:Int) (ra rb:Nat)
  (tv:Int) (hq:(ra=rb/\tv=1)\/(ra≠rb/\tv=0)) (hA:A<6) (hB:B<6) (hra:R6.get ⟨a0,a1,a2,a3,a4,a5⟩ A=ra) (hrb:R6.get ⟨a0,a1,a2,a3,a4,a5⟩ B=rb) (hn0:0<=hn/\hn<=4096) (hb0:0<=hb/\hb<=4096) :
  Ab ARt 154 #[ptr y.sb,I Z i,Ak #[I Z 11,I Z A,I Z B,I Z fi,I Z fn],Ak #[I Z hb,I Z hn,I Z a0,I Z a1,I Z a2,I Z a3,I Z a4,I Z a5,I Z s0,I Z s1,I Z s2,I Z s3,I Z s4,I Z s5,.bool hl]] w fun e' w'=>e'=O (Aj #[(AE.ended ⟨hb,hn,⟨a0,a1,a2,a3,a4,a5⟩,⟨s0,s1,s2,s3,s4,s5⟩,hl⟩ 0).v,(ws tv 0).val])/\Left y S o w w':=by
 have gD:∀ (fn:Fn) (first cap:Array Ac) (w:Aa),(Instr.makeFunc fn first cap).run ARt w=.ok (.func fn first cap) w:=fun _ _ _ _=>rfl
 obtain⟨o1,ho1⟩:∃ o1,o1=ext o w.1.size (y.l.id+1,0):=⟨_,rfl⟩;have h1:=hS.retag (o':=o1) fun b hb=>by rw[ho1];exact qr hb
 have hS0:Stp (qo y) o o1 w w:=by rw[ho1];exact (Stp.refl _ o w).ext _ _ (Qk _)
 have hbx:∀ b,w.1.size<=b->CL y (o1 b):=fun b hb=>by rw[ho1];exact qz hb
 clear ho1 hS;obtain⟨W,hW⟩:=Ja0 ((((((w.alloc (ARu #[ptr y.sb] 24)).alloc (ARu #[I Z 11,I Z A,I Z B,I Z fi,I Z fn] 73)).alloc (ARu #[I Z hb,I Z hn,I Z a0,I Z a1,I Z a2,I Z a3,I Z a4,I Z a5,I Z s0,I Z s1,I Z s2,I Z s3,I Z s4,I Z s5,.bool hl] 58)).alloc (ARu #[I Z 0,I Z 0,I Z 0,I Z 0,I Z 0,I Z 0,I Z 0,I Z 0,I Z 0,I Z 0,I Z 0,I Z 0,I Z 0,I Z 0,.bool false] 58)).alloc (ARu #[I Z 0,I Z 0,I Z 0] 54)).alloc (ARu #[.func (.func 213) #[] #[ptr (w.1.size+1+1)]] 295));have hbW:Ae w.1.size w W:=by rw[hW];exact qc (qc (qc (qc (qc (qc (qd w) _) _) _) _) _) _
 have k0:Al W w.1.size #[ptr y.sb] 24:=by rw[hW];exact (((((Al.new w _ _).alloc _).alloc _).alloc _).alloc _).alloc _
 have k1:Al W (w.1.size+1) #[I Z 11,I Z A,I Z B,I Z fi,I Z fn] 73:=by rw[hW];exact ((((Al.Ap _ _ _ _ _ (by simp) rfl).alloc _).alloc _).alloc _).alloc _
 have k2:Al W (w.1.size+1+1) #[I Z hb,I Z hn,I Z a0,I Z a1,I Z a2,I Z a3,I Z a4,I Z a5,I Z s0,I Z s1,I Z s2,I Z s3,I Z s4,I Z s5,.bool hl] 58:=by rw[hW];exact (((Al.Ap _ _ _ _ _ (by simp) rfl).alloc _).alloc _).alloc _
 have k3:Al W (w.1.size+1+1+1) #[I Z 0,I Z 0,I Z 0,I Z 0,I Z 0,I Z 0,I Z 0,I Z 0,I Z 0,I Z 0,I Z 0,I Z 0,I Z 0,I Z 0,.bool false] 58:=by rw[hW];exact ((Al.Ap _ _ _ _ _ (by simp) rfl).alloc _).alloc _
 have k4:Al W (w.1.size+1+1+1+1) #[I Z 0,I Z 0,I Z 0] 54:=by rw[hW];exact (Al.Ap _ _ _ _ _ (by simp) rfl).alloc _
 have k5:Al W (w.1.size+1+1+1+1+1) #[.func (.func 213) #[] #[ptr (w.1.size+1+1)]] 295:=by rw[hW];exact Al.Ap _ _ _ _ _ (by simp) rfl
 have hSW:=h1.below hbW;have cZ:Stp (qo y) o o1 w W:=hS0.trans (Stp.of_below hbW);have AI:(A:Int)<6:=by omega
 have BI:(B:Int)<6:=by omega
 have HB:=Qa hbx;have HT:=Qa (fun X (j7:Al X (w.1.size+1+1) (AE.cells ⟨hb,hn,⟨a0,a1,a2,a3,a4,a5⟩,⟨s0,s1,s2,s3,s4,s5⟩,hl⟩) 58)=>mn ⟨hb,hn,⟨a0,a1,a2,a3,a4,a5⟩,⟨s0,s1,s2,s3,s4,s5⟩,hl⟩ tv 0 hn0 hb0 X j7)
 obtain⟨H',lF⟩:=Ja0 (AE.ended ⟨hb,hn,⟨a0,a1,a2,a3,a4,a5⟩,⟨s0,s1,s2,s3,s4,s5⟩,hl⟩ 0);obtain⟨A',hA'⟩:=Ja0 (ws tv 0);rw[<-lF,<-hA']at HT ⊢;obtain⟨b',n',⟨r0,r1,r2,r3,r4,r5⟩,⟨p0,p1,p2,p3,p4,p5⟩,hl'⟩:=H';obtain⟨ak,ae,av⟩:=A';have HT:=Qa (fun X j7=>show Ab ARt 213 #[I Z tv,I Z 0,ptr (w.1.size+1+1)] X fun e' w'=>e'=O (Aj #[Ak #[I Z b',I Z n',I Z r0,I Z r1,I Z r2,I Z r3,I Z r4,I Z r5,I Z p0,I Z p1,I Z p2,I Z p3,I Z p4,I Z p5,.bool hl'],Ak #[I Z ak,I Z ae,I Z av]])/\Ae X.1.size X w' from HT.out X j7)
 have HI:=Qa hI;clear lF hA' hI hn0 hb0 h1 hS0 hbx;go_enter func154,ntmps154;go_upto_region 3 with fail;rw[<-hW];clear hW;have cA:=ki (h:=⟨hb,hn,⟨a0,a1,a2,a3,a4,a5⟩,⟨s0,s1,s2,s3,s4,s5⟩,hl⟩) k2 hA;have cB:=ki (h:=⟨hb,hn,⟨a0,a1,a2,a3,a4,a5⟩,⟨s0,s1,s2,s3,s4,s5⟩,hl⟩) k2 hB;rw[hra]at cA;rw[hrb]at cB;have c1:=k1.cell;have l2:=k2.lt;go_quiet (fail);obtain⟨V,hV⟩:=Ja0 (W.drewN nq);have dC:Ae W.1.size W V:=by rw[hV];exact qx (qd _) _
 rw[<-hV];clear hV cA cB c1 l2;replace k0:=k0.below dC k0.lt;replace k1:=k1.below dC k1.lt;replace k2:=k2.below dC k2.lt;replace k3:=k3.below dC k3.lt;replace k4:=k4.below dC k4.lt;replace k5:=k5.below dC k5.lt;replace hSW:=hSW.below dC;replace cZ:=cZ.trans (Stp.of_below dC);have c0:=k0.cell;have c1:=k1.cell;have c5:=k5.cell;rcases hq with ⟨hab,rfl⟩|⟨hab,rfl⟩
 all_goals first
  | (have hcm:((ra:Int)==(rb:Int))=true:=by rw[beq_iff_eq,hab])
  | (have hcm:((ra:Int)==(rb:Int))=false:=by rw[Qh];omega)
 all_goals
  go_wp2_with fail;obtain⟨V2,hV2⟩:=Ja0 V;rw[<-hV2];have i2:Al V2 (w.1.size+1+1) (AE.cells ⟨hb,hn,⟨a0,a1,a2,a3,a4,a5⟩,⟨s0,s1,s2,s3,s4,s5⟩,hl⟩) 58:=by rw[hV2];exact k2
  have i3:Al V2 (w.1.size+1+1+1) #[I Z 0,I Z 0,I Z 0,I Z 0,I Z 0,I Z 0,I Z 0,I Z 0,I Z 0,I Z 0,I Z 0,I Z 0,I Z 0,I Z 0,.bool false] 58:=by rw[hV2];exact k3
  have i4:Al V2 (w.1.size+1+1+1+1) #[I Z 0,I Z 0,I Z 0] 54:=by rw[hV2];exact k4
  have hw:Wr (w.1.size+1+1) V V2:=by rw[hV2];exact Wr.refl _ _
  have t2:CL y (o1 (w.1.size+1+1)):=HB.out _ (by omega)
  have hS2:=hSW.bx (Stp.BE hw t2);have hs2:=cZ.CK hw (by omega)
  clear hV2;refine (HT.out _ i2).mono ?_;rintro e5 w5 ⟨rfl,hb5⟩;have m3:=i3.below hb5 i3.lt;have m4:=i4.below hb5 i4.lt;have hS5:=hS2.below hb5;have hs5:=hs2.trans (Stp.of_below hb5);clear c0 c1 c5 HT i2 i3 i4 hw hS2 hs2 hb5 k0 k1 k2 k3 k4 k5 hSW cZ;have c3:=m3.cell;have z3:=m3.free;have l3:=m3.lt;have c4:=m4.cell;have z4:=m4.free;have l4:=m4.lt;have hres:=Qa (jt m3 m4 (by omega) ⟨b',n',⟨r0,r1,r2,r3,r4,r5⟩,⟨p0,p1,p2,p3,p4,p5⟩,hl'⟩ ⟨ak,ae,av⟩)
  have hrs:=Qa (wh hs5 (b6:=(w.1.size+1+1+1)) (b7:=(w.1.size+1+1+1+1)) (by omega) (by omega) ⟨b',n',⟨r0,r1,r2,r3,r4,r5⟩,⟨p0,p1,p2,p3,p4,p5⟩,hl'⟩ ⟨ak,ae,av⟩)
  have fO:=Qa (hS5.bx (ya w5 (w.1.size+1+1+1) (w.1.size+1+1+1+1) (o:=o1) (HB.out _ (by omega)) (HB.out _ (by omega)) ⟨b',n',⟨r0,r1,r2,r3,r4,r5⟩,⟨p0,p1,p2,p3,p4,p5⟩,hl'⟩ ⟨ak,ae,av⟩))
  clear m3 m4 hS5 hs5;go_wp2_with fail;change bodyPost _ _ _ _ _ (jy w5 (w.1.size+1+1+1) (w.1.size+1+1+1+1) ⟨b',n',⟨r0,r1,r2,r3,r4,r5⟩,⟨p0,p1,p2,p3,p4,p5⟩,hl'⟩ ⟨ak,ae,av⟩);generalize jy w5 (w.1.size+1+1+1) (w.1.size+1+1+1+1) ⟨b',n',⟨r0,r1,r2,r3,r4,r5⟩,⟨p0,p1,p2,p3,p4,p5⟩,hl'⟩ ⟨ak,ae,av⟩=X at *;exact bodyPost_ret (ze _ _ 8 9 rfl rfl rfl hres.out.1 hres.out.2) rfl ⟨rfl,o1,fO.out,HI.out,hrs.out⟩
def qju (hS:Aq w o y S) (hI:Inv S) (hb hn a0 a1 a2 a3 a4 a5 s0 s1 s2 s3 s4 s5:Int) (hl:Bool) (A B:Nat) (fi fn:Int) (ra rb:Nat)
   (hA:A<6) (hB:B<6) (hra:R6.get ⟨a0,a1,a2,a3,a4,a5⟩ A=ra) (hrb:R6.get ⟨a0,a1,a2,a3,a4,a5⟩ B=rb) (hn0:0<=hn/\hn<=4096) (hb0:0<=hb/\hb<=4096) :
  Ab ARt 154 #[ptr y.sb,I Z i,Ak #[I Z 12,I Z A,I Z B,I Z fi,I Z fn],Ak #[I Z hb,I Z hn,I Z a0,I Z a1,I Z a2,I Z a3,I Z a4,I Z a5,I Z s0,I Z s1,I Z s2,I Z s3,I Z s4,I Z s5,.bool hl]] w fun e' w'=>e'=O (Aj #[(AE.ended (AE.put ⟨hb,hn,⟨a0,a1,a2,a3,a4,a5⟩,⟨s0,s1,s2,s3,s4,s5⟩,hl⟩ A rb) 0).v,(ws 0 0).val])/\Left y S o w w':=by
 have gD:∀ (fn:Fn) (first cap:Array Ac) (w:Aa),(Instr.makeFunc fn first cap).run ARt w=.ok (.func fn first cap) w:=fun _ _ _ _=>rfl
 obtain⟨o1,ho1⟩:∃ o1,o1=ext o w.1.size (y.l.id+1,0):=⟨_,rfl⟩;have h1:=hS.retag (o':=o1) fun b hb=>by rw[ho1];exact qr hb
 have hS0:Stp (qo y) o o1 w w:=by rw[ho1];exact (Stp.refl _ o w).ext _ _ (Qk _)
 have hbx:∀ b,w.1.size<=b->CL y (o1 b):=fun b hb=>by rw[ho1];exact qz hb
 clear ho1 hS;obtain⟨W,hW⟩:=Ja0 ((((((w.alloc (ARu #[ptr y.sb] 24)).alloc (ARu #[I Z 12,I Z A,I Z B,I Z fi,I Z fn] 73)).alloc (ARu #[I Z hb,I Z hn,I Z a0,I Z a1,I Z a2,I Z a3,I Z a4,I Z a5,I Z s0,I Z s1,I Z s2,I Z s3,I Z s4,I Z s5,.bool hl] 58)).alloc (ARu #[I Z 0,I Z 0,I Z 0,I Z 0,I Z 0,I Z 0,I Z 0,I Z 0,I Z 0,I Z 0,I Z 0,I Z 0,I Z 0,I Z 0,.bool false] 58)).alloc (ARu #[I Z 0,I Z 0,I Z 0] 54)).alloc (ARu #[.func (.func 213) #[] #[ptr (w.1.size+1+1)]] 295));have hbW:Ae w.1.size w W:=by rw[hW];exact qc (qc (qc (qc (qc (qc (qd w) _) _) _) _) _) _
 have k0:Al W w.1.size #[ptr y.sb] 24:=by rw[hW];exact (((((Al.new w _ _).alloc _).alloc _).alloc _).alloc _).alloc _
 have k1:Al W (w.1.size+1) #[I Z 12,I Z A,I Z B,I Z fi,I Z fn] 73:=by rw[hW];exact ((((Al.Ap _ _ _ _ _ (by simp) rfl).alloc _).alloc _).alloc _).alloc _
 have k2:Al W (w.1.size+1+1) #[I Z hb,I Z hn,I Z a0,I Z a1,I Z a2,I Z a3,I Z a4,I Z a5,I Z s0,I Z s1,I Z s2,I Z s3,I Z s4,I Z s5,.bool hl] 58:=by rw[hW];exact (((Al.Ap _ _ _ _ _ (by simp) rfl).alloc _).alloc _).alloc _
 have k3:Al W (w.1.size+1+1+1) #[I Z 0,I Z 0,I Z 0,I Z 0,I Z 0,I Z 0,I Z 0,I Z 0,I Z 0,I Z 0,I Z 0,I Z 0,I Z 0,I Z 0,.bool false] 58:=by rw[hW];exact ((Al.Ap _ _ _ _ _ (by simp) rfl).alloc _).alloc _
 have k4:Al W (w.1.size+1+1+1+1) #[I Z 0,I Z 0,I Z 0] 54:=by rw[hW];exact (Al.Ap _ _ _ _ _ (by simp) rfl).alloc _
 have k5:Al W (w.1.size+1+1+1+1+1) #[.func (.func 213) #[] #[ptr (w.1.size+1+1)]] 295:=by rw[hW];exact Al.Ap _ _ _ _ _ (by simp) rfl
 have hSW:=h1.below hbW;have cZ:Stp (qo y) o o1 w W:=hS0.trans (Stp.of_below hbW);have AI:(A:Int)<6:=by omega
 have BI:(B:Int)<6:=by omega
 have HB:=Qa hbx;have HT:=Qa (fun X (j7:Al X (w.1.size+1+1) (AE.cells (AE.put ⟨hb,hn,⟨a0,a1,a2,a3,a4,a5⟩,⟨s0,s1,s2,s3,s4,s5⟩,hl⟩ A rb)) 58)=>mn (AE.put ⟨hb,hn,⟨a0,a1,a2,a3,a4,a5⟩,⟨s0,s1,s2,s3,s4,s5⟩,hl⟩ A rb) 0 0 hn0 hb0 X j7)
 obtain⟨H',lF⟩:=Ja0 (AE.ended (AE.put ⟨hb,hn,⟨a0,a1,a2,a3,a4,a5⟩,⟨s0,s1,s2,s3,s4,s5⟩,hl⟩ A rb) 0);obtain⟨A',hA'⟩:=Ja0 (ws 0 0);rw[<-lF,<-hA']at HT ⊢;obtain⟨b',n',⟨r0,r1,r2,r3,r4,r5⟩,⟨p0,p1,p2,p3,p4,p5⟩,hl'⟩:=H';obtain⟨ak,ae,av⟩:=A';have HT:=Qa (fun X j7=>show Ab ARt 213 #[I Z 0,I Z 0,ptr (w.1.size+1+1)] X fun e' w'=>e'=O (Aj #[Ak #[I Z b',I Z n',I Z r0,I Z r1,I Z r2,I Z r3,I Z r4,I Z r5,I Z p0,I Z p1,I Z p2,I Z p3,I Z p4,I Z p5,.bool hl'],Ak #[I Z ak,I Z ae,I Z av]])/\Ae X.1.size X w' from HT.out X j7)
 have HI:=Qa hI;clear lF hA' hI hn0 hb0 h1 hS0 hbx;go_enter func154,ntmps154;go_upto_region 3 with fail;rw[<-hW];clear hW;have cA:=ki (h:=⟨hb,hn,⟨a0,a1,a2,a3,a4,a5⟩,⟨s0,s1,s2,s3,s4,s5⟩,hl⟩) k2 hA;have cB:=ki (h:=⟨hb,hn,⟨a0,a1,a2,a3,a4,a5⟩,⟨s0,s1,s2,s3,s4,s5⟩,hl⟩) k2 hB;rw[hra]at cA;rw[hrb]at cB;have c1:=k1.cell;have l2:=k2.lt;go_quiet (fail);obtain⟨V,hV⟩:=Ja0 (W.drewN nq);have dC:Ae W.1.size W V:=by rw[hV];exact qx (qd _) _
 rw[<-hV];clear hV cA cB c1 l2;replace k0:=k0.below dC k0.lt;replace k1:=k1.below dC k1.lt;replace k2:=k2.below dC k2.lt;replace k3:=k3.below dC k3.lt;replace k4:=k4.below dC k4.lt;replace k5:=k5.below dC k5.lt;replace hSW:=hSW.below dC;replace cZ:=cZ.trans (Stp.of_below dC);have c0:=k0.cell;have c1:=k1.cell;have c5:=k5.cell;have cR:=ki (h:=⟨hb,hn,⟨a0,a1,a2,a3,a4,a5⟩,⟨s0,s1,s2,s3,s4,s5⟩,hl⟩) k2 hA;have z2:=k2.free;have l2:=k2.lt;have i5:=k5.Am (a:=⟨(w.1.size+1+1),2+A,none⟩) (by show _≠(w.1.size+1+1);omega) (I Z rb)
 have ci5:(V.setCell ⟨(w.1.size+1+1),2+A,none⟩ (I Z rb)).cell? ⟨(w.1.size+1+1+1+1+1),0,none⟩=_:=i5.cell 0;go_wp2_with fail;obtain⟨V2,hV2⟩:=Ja0 ((V.setCell ⟨(w.1.size+1+1),2+A,none⟩ (I Z rb)));rw[<-hV2];have i2:Al V2 (w.1.size+1+1) (AE.cells (AE.put ⟨hb,hn,⟨a0,a1,a2,a3,a4,a5⟩,⟨s0,s1,s2,s3,s4,s5⟩,hl⟩ A rb)) 58:=by rw[hV2];exact VM (h:=⟨hb,hn,⟨a0,a1,a2,a3,a4,a5⟩,⟨s0,s1,s2,s3,s4,s5⟩,hl⟩) k2 hA _
 have i3:Al V2 (w.1.size+1+1+1) #[I Z 0,I Z 0,I Z 0,I Z 0,I Z 0,I Z 0,I Z 0,I Z 0,I Z 0,I Z 0,I Z 0,I Z 0,I Z 0,I Z 0,.bool false] 58:=by rw[hV2];exact k3.Am (a:=⟨(w.1.size+1+1),2+A,none⟩) (by show _≠(w.1.size+1+1);omega) (I Z rb)
 have i4:Al V2 (w.1.size+1+1+1+1) #[I Z 0,I Z 0,I Z 0] 54:=by rw[hV2];exact k4.Am (a:=⟨(w.1.size+1+1),2+A,none⟩) (by show _≠(w.1.size+1+1);omega) (I Z rb)
 have hw:Wr (w.1.size+1+1) V V2:=by rw[hV2];exact Wr.set _ _ _ _
 have t2:CL y (o1 (w.1.size+1+1)):=HB.out _ (by omega)
 have hS2:=hSW.bx (Stp.BE hw t2);have hs2:=cZ.CK hw (by omega)
 clear hV2;refine (HT.out _ i2).mono ?_
 rintro e5 w5 ⟨rfl,hb5⟩
 have m3:=i3.below hb5 i3.lt;have m4:=i4.below hb5 i4.lt;have hS5:=hS2.below hb5;have hs5:=hs2.trans (Stp.of_below hb5);clear c0 c1 c5 HT i2 i3 i4 hw hS2 hs2 hb5 k0 k1 k2 k3 k4 k5 hSW cZ i5 ci5 cR z2 l2;have c3:=m3.cell;have z3:=m3.free;have l3:=m3.lt;have c4:=m4.cell;have z4:=m4.free;have l4:=m4.lt;have hres:=Qa (jt m3 m4 (by omega) ⟨b',n',⟨r0,r1,r2,r3,r4,r5⟩,⟨p0,p1,p2,p3,p4,p5⟩,hl'⟩ ⟨ak,ae,av⟩)
 have hrs:=Qa (wh hs5 (b6:=(w.1.size+1+1+1)) (b7:=(w.1.size+1+1+1+1)) (by omega) (by omega) ⟨b',n',⟨r0,r1,r2,r3,r4,r5⟩,⟨p0,p1,p2,p3,p4,p5⟩,hl'⟩ ⟨ak,ae,av⟩)
 have fO:=Qa (hS5.bx (ya w5 (w.1.size+1+1+1) (w.1.size+1+1+1+1) (o:=o1) (HB.out _ (by omega)) (HB.out _ (by omega)) ⟨b',n',⟨r0,r1,r2,r3,r4,r5⟩,⟨p0,p1,p2,p3,p4,p5⟩,hl'⟩ ⟨ak,ae,av⟩))
 clear m3 m4 hS5 hs5;go_wp2_with fail;change bodyPost _ _ _ _ _ (jy w5 (w.1.size+1+1+1) (w.1.size+1+1+1+1) ⟨b',n',⟨r0,r1,r2,r3,r4,r5⟩,⟨p0,p1,p2,p3,p4,p5⟩,hl'⟩ ⟨ak,ae,av⟩);generalize jy w5 (w.1.size+1+1+1) (w.1.size+1+1+1+1) ⟨b',n',⟨r0,r1,r2,r3,r4,r5⟩,⟨p0,p1,p2,p3,p4,p5⟩,hl'⟩ ⟨ak,ae,av⟩=X at *;exact bodyPost_ret (ze _ _ 8 9 rfl rfl rfl hres.out.1 hres.out.2) rfl ⟨rfl,o1,fO.out,HI.out,hrs.out⟩
def qnm (hS:Aq w o y S) (hI:Inv S) (hb hn a0 a1 a2 a3 a4 a5 s0 s1 s2 s3 s4 s5:Int) (hl:Bool) (A B:Nat) (fi fn:Int) (ra rb:Nat)
   (hA:A<6) (hB:B<6) (hra:R6.get ⟨a0,a1,a2,a3,a4,a5⟩ A=ra) (hrb:R6.get ⟨a0,a1,a2,a3,a4,a5⟩ B=rb) (hn0:0<=hn/\hn<=4096) (hb0:0<=hb/\hb<=4096) :
  Ab ARt 154 #[ptr y.sb,I Z i,Ak #[I Z 13,I Z A,I Z B,I Z fi,I Z fn],Ak #[I Z hb,I Z hn,I Z a0,I Z a1,I Z a2,I Z a3,I Z a4,I Z a5,I Z s0,I Z s1,I Z s2,I Z s3,I Z s4,I Z s5,.bool hl]] w fun e' w'=>e'=O (Aj #[(AE.ended (AE.put ⟨hb,hn,⟨a0,a1,a2,a3,a4,a5⟩,⟨s0,s1,s2,s3,s4,s5⟩,hl⟩ A 0) 0).v,(ws 0 0).val])/\Left y S o w w':=by
 have gD:∀ (fn:Fn) (first cap:Array Ac) (w:Aa),(Instr.makeFunc fn first cap).run ARt w=.ok (.func fn first cap) w:=fun _ _ _ _=>rfl
 obtain⟨o1,ho1⟩:∃ o1,o1=ext o w.1.size (y.l.id+1,0):=⟨_,rfl⟩;have h1:=hS.retag (o':=o1) fun b hb=>by rw[ho1];exact qr hb
 have hS0:Stp (qo y) o o1 w w:=by rw[ho1];exact (Stp.refl _ o w).ext _ _ (Qk _)
 have hbx:∀ b,w.1.size<=b->CL y (o1 b):=fun b hb=>by rw[ho1];exact qz hb
 clear ho1 hS;obtain⟨W,hW⟩:=Ja0 ((((((w.alloc (ARu #[ptr y.sb] 24)).alloc (ARu #[I Z 13,I Z A,I Z B,I Z fi,I Z fn] 73)).alloc (ARu #[I Z hb,I Z hn,I Z a0,I Z a1,I Z a2,I Z a3,I Z a4,I Z a5,I Z s0,I Z s1,I Z s2,I Z s3,I Z s4,I Z s5,.bool hl] 58)).alloc (ARu #[I Z 0,I Z 0,I Z 0,I Z 0,I Z 0,I Z 0,I Z 0,I Z 0,I Z 0,I Z 0,I Z 0,I Z 0,I Z 0,I Z 0,.bool false] 58)).alloc (ARu #[I Z 0,I Z 0,I Z 0] 54)).alloc (ARu #[.func (.func 213) #[] #[ptr (w.1.size+1+1)]] 295));have hbW:Ae w.1.size w W:=by rw[hW];exact qc (qc (qc (qc (qc (qc (qd w) _) _) _) _) _) _
 have k0:Al W w.1.size #[ptr y.sb] 24:=by rw[hW];exact (((((Al.new w _ _).alloc _).alloc _).alloc _).alloc _).alloc _
 have k1:Al W (w.1.size+1) #[I Z 13,I Z A,I Z B,I Z fi,I Z fn] 73:=by rw[hW];exact ((((Al.Ap _ _ _ _ _ (by simp) rfl).alloc _).alloc _).alloc _).alloc _
 have k2:Al W (w.1.size+1+1) #[I Z hb,I Z hn,I Z a0,I Z a1,I Z a2,I Z a3,I Z a4,I Z a5,I Z s0,I Z s1,I Z s2,I Z s3,I Z s4,I Z s5,.bool hl] 58:=by rw[hW];exact (((Al.Ap _ _ _ _ _ (by simp) rfl).alloc _).alloc _).alloc _
 have k3:Al W (w.1.size+1+1+1) #[I Z 0,I Z 0,I Z 0,I Z 0,I Z 0,I Z 0,I Z 0,I Z 0,I Z 0,I Z 0,I Z 0,I Z 0,I Z 0,I Z 0,.bool false] 58:=by rw[hW];exact ((Al.Ap _ _ _ _ _ (by simp) rfl).alloc _).alloc _
 have k4:Al W (w.1.size+1+1+1+1) #[I Z 0,I Z 0,I Z 0] 54:=by rw[hW];exact (Al.Ap _ _ _ _ _ (by simp) rfl).alloc _
 have k5:Al W (w.1.size+1+1+1+1+1) #[.func (.func 213) #[] #[ptr (w.1.size+1+1)]] 295:=by rw[hW];exact Al.Ap _ _ _ _ _ (by simp) rfl
 have hSW:=h1.below hbW;have cZ:Stp (qo y) o o1 w W:=hS0.trans (Stp.of_below hbW);have AI:(A:Int)<6:=by omega
 have BI:(B:Int)<6:=by omega
 have HB:=Qa hbx;have HT:=Qa (fun X (j7:Al X (w.1.size+1+1) (AE.cells (AE.put ⟨hb,hn,⟨a0,a1,a2,a3,a4,a5⟩,⟨s0,s1,s2,s3,s4,s5⟩,hl⟩ A 0)) 58)=>mn (AE.put ⟨hb,hn,⟨a0,a1,a2,a3,a4,a5⟩,⟨s0,s1,s2,s3,s4,s5⟩,hl⟩ A 0) 0 0 hn0 hb0 X j7)
 obtain⟨H',lF⟩:=Ja0 (AE.ended (AE.put ⟨hb,hn,⟨a0,a1,a2,a3,a4,a5⟩,⟨s0,s1,s2,s3,s4,s5⟩,hl⟩ A 0) 0);obtain⟨A',hA'⟩:=Ja0 (ws 0 0);rw[<-lF,<-hA']at HT ⊢;obtain⟨b',n',⟨r0,r1,r2,r3,r4,r5⟩,⟨p0,p1,p2,p3,p4,p5⟩,hl'⟩:=H';obtain⟨ak,ae,av⟩:=A';have HT:=Qa (fun X j7=>show Ab ARt 213 #[I Z 0,I Z 0,ptr (w.1.size+1+1)] X fun e' w'=>e'=O (Aj #[Ak #[I Z b',I Z n',I Z r0,I Z r1,I Z r2,I Z r3,I Z r4,I Z r5,I Z p0,I Z p1,I Z p2,I Z p3,I Z p4,I Z p5,.bool hl'],Ak #[I Z ak,I Z ae,I Z av]])/\Ae X.1.size X w' from HT.out X j7)
 have HI:=Qa hI;clear lF hA' hI hn0 hb0 h1 hS0 hbx;go_enter func154,ntmps154;go_upto_region 3 with fail;rw[<-hW];clear hW;have cA:=ki (h:=⟨hb,hn,⟨a0,a1,a2,a3,a4,a5⟩,⟨s0,s1,s2,s3,s4,s5⟩,hl⟩) k2 hA;have cB:=ki (h:=⟨hb,hn,⟨a0,a1,a2,a3,a4,a5⟩,⟨s0,s1,s2,s3,s4,s5⟩,hl⟩) k2 hB;rw[hra]at cA;rw[hrb]at cB;have c1:=k1.cell;have l2:=k2.lt;go_quiet (fail);obtain⟨V,hV⟩:=Ja0 (W.drewN nq);have dC:Ae W.1.size W V:=by rw[hV];exact qx (qd _) _
 rw[<-hV];clear hV cA cB c1 l2;replace k0:=k0.below dC k0.lt;replace k1:=k1.below dC k1.lt;replace k2:=k2.below dC k2.lt;replace k3:=k3.below dC k3.lt;replace k4:=k4.below dC k4.lt;replace k5:=k5.below dC k5.lt;replace hSW:=hSW.below dC;replace cZ:=cZ.trans (Stp.of_below dC);have c0:=k0.cell;have c1:=k1.cell;have c5:=k5.cell;have cR:=ki (h:=⟨hb,hn,⟨a0,a1,a2,a3,a4,a5⟩,⟨s0,s1,s2,s3,s4,s5⟩,hl⟩) k2 hA;have z2:=k2.free;have l2:=k2.lt;have i5:=k5.Am (a:=⟨(w.1.size+1+1),2+A,none⟩) (by show _≠(w.1.size+1+1);omega) (I Z 0)
 have ci5:(V.setCell ⟨(w.1.size+1+1),2+A,none⟩ (I Z 0)).cell? ⟨(w.1.size+1+1+1+1+1),0,none⟩=_:=i5.cell 0;go_wp2_with fail;obtain⟨V2,hV2⟩:=Ja0 ((V.setCell ⟨(w.1.size+1+1),2+A,none⟩ (I Z 0)));rw[<-hV2];have i2:Al V2 (w.1.size+1+1) (AE.cells (AE.put ⟨hb,hn,⟨a0,a1,a2,a3,a4,a5⟩,⟨s0,s1,s2,s3,s4,s5⟩,hl⟩ A 0)) 58:=by rw[hV2];exact VM (h:=⟨hb,hn,⟨a0,a1,a2,a3,a4,a5⟩,⟨s0,s1,s2,s3,s4,s5⟩,hl⟩) k2 hA _
 have i3:Al V2 (w.1.size+1+1+1) #[I Z 0,I Z 0,I Z 0,I Z 0,I Z 0,I Z 0,I Z 0,I Z 0,I Z 0,I Z 0,I Z 0,I Z 0,I Z 0,I Z 0,.bool false] 58:=by rw[hV2];exact k3.Am (a:=⟨(w.1.size+1+1),2+A,none⟩) (by show _≠(w.1.size+1+1);omega) (I Z 0)
 have i4:Al V2 (w.1.size+1+1+1+1) #[I Z 0,I Z 0,I Z 0] 54:=by rw[hV2];exact k4.Am (a:=⟨(w.1.size+1+1),2+A,none⟩) (by show _≠(w.1.size+1+1);omega) (I Z 0)
 have hw:Wr (w.1.size+1+1) V V2:=by rw[hV2];exact Wr.set _ _ _ _
 have t2:CL y (o1 (w.1.size+1+1)):=HB.out _ (by omega)
 have hS2:=hSW.bx (Stp.BE hw t2);have hs2:=cZ.CK hw (by omega)
 clear hV2;refine (HT.out _ i2).mono ?_
 rintro e5 w5 ⟨rfl,hb5⟩
 have m3:=i3.below hb5 i3.lt;have m4:=i4.below hb5 i4.lt;have hS5:=hS2.below hb5;have hs5:=hs2.trans (Stp.of_below hb5);clear c0 c1 c5 HT i2 i3 i4 hw hS2 hs2 hb5 k0 k1 k2 k3 k4 k5 hSW cZ i5 ci5 cR z2 l2;have c3:=m3.cell;have z3:=m3.free;have l3:=m3.lt;have c4:=m4.cell;have z4:=m4.free;have l4:=m4.lt;have hres:=Qa (jt m3 m4 (by omega) ⟨b',n',⟨r0,r1,r2,r3,r4,r5⟩,⟨p0,p1,p2,p3,p4,p5⟩,hl'⟩ ⟨ak,ae,av⟩)
 have hrs:=Qa (wh hs5 (b6:=(w.1.size+1+1+1)) (b7:=(w.1.size+1+1+1+1)) (by omega) (by omega) ⟨b',n',⟨r0,r1,r2,r3,r4,r5⟩,⟨p0,p1,p2,p3,p4,p5⟩,hl'⟩ ⟨ak,ae,av⟩)
 have fO:=Qa (hS5.bx (ya w5 (w.1.size+1+1+1) (w.1.size+1+1+1+1) (o:=o1) (HB.out _ (by omega)) (HB.out _ (by omega)) ⟨b',n',⟨r0,r1,r2,r3,r4,r5⟩,⟨p0,p1,p2,p3,p4,p5⟩,hl'⟩ ⟨ak,ae,av⟩))
 clear m3 m4 hS5 hs5;go_wp2_with fail;change bodyPost _ _ _ _ _ (jy w5 (w.1.size+1+1+1) (w.1.size+1+1+1+1) ⟨b',n',⟨r0,r1,r2,r3,r4,r5⟩,⟨p0,p1,p2,p3,p4,p5⟩,hl'⟩ ⟨ak,ae,av⟩);generalize jy w5 (w.1.size+1+1+1) (w.1.size+1+1+1+1) ⟨b',n',⟨r0,r1,r2,r3,r4,r5⟩,⟨p0,p1,p2,p3,p4,p5⟩,hl'⟩ ⟨ak,ae,av⟩=X at *;exact bodyPost_ret (ze _ _ 8 9 rfl rfl rfl hres.out.1 hres.out.2) rfl ⟨rfl,o1,fO.out,HI.out,hrs.out⟩
end
section
variable {w w' : Aa} {o o' : Own} {y : A6} {S : An} {i : Nat}
def qjt (h0:Aq w o y S)(hk:S.ok){v:Ac}{ps:List Nat}{ta:Tag}(hv:Row w o ta 3 1 v ps.length (ps.map nv))(hp:ps.length<=100000)(hp1:1<=ps.length)(hm:S.may ps=true) :
  Ab ARt 18 #[ptr y.sb,v] w fun e w'=>∃ v' o',e=O (Aj #[v',.bool true])/\Aq w' o' y ((S.begun ps).at' (S.begun ps).H.now)/\Row w' o' (y.l.id+1,0) 3 1 v' ps.length ((ps.map (S.begun ps).H.now).map nv)/\Stp (qo y) o o' w w':=by
 have qE:S.ph=0:=VQ hm;have hall:ps.all (ul S.H)=true:=by unfold An.may at hm;simp only[Bool.and_eq_true]at hm;exact hm.2
 have hmv:S.H.AD=false:=hk.ph.2.1 qE;obtain⟨NN,hNN⟩:=XP o w.1.size;have Aeo:y.l.id<NN:=by have:=hNN _ h0.lt;rw[h0.os]at this;exact this
 have h:=h0;have HL:=Qa (p9 h.GN hk.ph.1);rw[show decide (S.ph≠0)=false from by rw[qE];rfl]at HL
 have HH:=Qa (fun (w2:Aa)(hb:Ae w.1.size w w2)(p:Nat)=>SD (h.below hb) hk p)
 obtain⟨vq,vl,vm,jb,_⟩:=h.AM;unfold qw at jb;obtain⟨pv,cv,rfl⟩:=hv.AS;have HV:=Qa hv;have HJ:=Qa jb;have uE:=Qa hall;have HP0:=Qa (fun (w2:Aa)(hb:Ae w.1.size w w2)=>qil (h.below hb) hk (hv.below hb) hp)
 have HST:=Qa (fun (W w3:Aa)(hW:Ae w.1.size w W)(hb3:Ae W.1.size W w3)(v3:Ac)(hr3:Row w3 (fo W.1.size) (1,0) 3 1 v3 (S.places ps).length ((S.places ps).map nv)) =>
  show Ab ARt 62 #[ptr y.cy,v3] w3 fun e w4=>∃ v4 o4,e=O (Aj #[v4,.bool true])/\Aq w4 o4 y (S.begun ps)/\Row w4 o4 (NN,1) 3 1 v4 (S.places ps).length (((S.places ps).map (S.begun ps).H.now).map nv)/\Stp (qo y) o o4 w w4 from by
   have dB:Aq w3 (ext o W.1.size (NN,0)) y S:=((h.below hW).retag fun b hb=>qr hb).below hb3;have hpl:=WR hk ps;have hn2:=hk.Lr;refine (qor dB.hp hk.H hmv (by have:=dB.cy;rw[qE]at this;exact this) dB.oy (hr3.out o (NN,0)) (by omega) (NN,1) (fun e=>by have:=e.1;simp only at this;omega) (fun e=>by have:=e.1;simp only at this;omega) (by simp)).mono ?_
   rintro e w4 ⟨v4,o4,rfl,hH4,hc4,hr4,hs4⟩;have s3:Stp (fun _=>False) o (ext o W.1.size (NN,0)) w w3:=(Stp.of_below (qe hW hb3)).ext _ _ hW.size;have dR:Aq w4 o4 y { S with H:=(S.H.flip.Ax (S.places ps)).1,ph:=1 }:=dB.EW hH4 hc4 hs4 fun j hj e=>by
    rcases e with e|e
    ·have:=e.2;simp only at this;omega
    ·have:=congrArg Prod.fst e;simp only at this;omega
   refine⟨v4,o4,rfl,dR,?_,((s3.mono fun _ h=>h.elim).trans hs4).shrink fun b hb e=>?_⟩
   ·have e:(S.H.flip.Ax (S.places ps)).2=(S.places ps).map (S.begun ps).H.now:=XW (S.places ps) S.H.flip
    rw[<-e];exact hr4
   ·rcases e with e|e
    ·exact e.1
    ·exfalso;have:=hNN b hb;rw[e]at this;exact Nat.lt_irrefl _ this)
 obtain⟨n,hn⟩:=Ja0 ps.length;rw[<-hn]at HV HP0;have HN:=Qa hn;have HK:=Qa hk;have ou:=Qa (An.DO hk qE ps);have uK:=Qa Aeo;obtain⟨H,hHe⟩:=Ja0 S.H;rw[<-hHe]at HH uE;have c':=jb.cell;have hn1:n<=100000:=by omega
 have hn2:1<=n:=by omega
 rw[<-hn];generalize S.next=N at *;generalize S.Av=N1 at *;generalize S.version=N2 at *;clear h h0 hk qE hv hp hp1 hm hall hmv hNN jb hHe hn Aeo;go_enter func18,ntmps18;go_wp2_with fail;refine HL.out.mono ?_
 rintro e w1 ⟨rfl,rfl⟩
 go_wp2_with fail;clear c';go_loopw [25] (fun ix wr=>∃ k:Nat,ix=I Z k/\k<=n/\Ae w.1.size w wr) (fun ix _=>n-(intOf ix).toNat)
 case atStart=>exact⟨0,rfl,Nat.zero_le _,qd w⟩
 case round =>
  obtain⟨k,rfl,hkn,hb⟩:=hrel;obtain⟨wo,rfl⟩:=Ja0 wr;have jo:=HJ.out.below hb HJ.out.lt;have c':=jo.cell;by_cases hlt:k<n
  ·have gT:(k:Int)<(n:Int):=by omega
   obtain⟨x,hx⟩:∃ x,ps[k]?=some x:=⟨_,Qb (by rw[<-HN.out];exact hlt)⟩
   obtain⟨g,cap,e,hcell⟩:∃ g cap,Value.slice pv n cv=Ah (some ⟨g,0,none⟩) n cap/\wo.cell? ⟨g,k,none⟩=some (I Z x):=by
    rcases (HV.out.below hb).form with ⟨_,h0⟩|⟨g,cap,e,_⟩
    ·omega
    ·injection e with e1 _ e3
     subst e1 e3;exact⟨g,cv,rfl,(HV.out.below hb).cells k _ (by rw[Qj,hx];rfl)⟩
   injection e with e1 _ e3;subst e1 e3;have hro:=List.all_eq_true.1 uE.out x (Qe hx);have HC:=Qa (HH.out wo hb x);obtain⟨hw1,hw2⟩:=jd k (by omega)
   by_cases hx0:x=0
   ·subst hx0
    have hxb:(((0:Nat):Int) != 0)=false:=rfl;clear hx hro jo;go_wp2_with fail;go_roundw
    case rel=>exact⟨k+1,by simp,by omega,hb⟩
    case measure=>simp[intOf];omega
   ·have hxb:((x:Int) != 0)=true:=by rw[bne_iff_ne];omega
    have hs:(lk H.cur x).isSome=true:=by unfold ul at hro;rw[decide_eq_false hx0,Bool.false_or]at hro;exact hro
    rw[hs]at HC;clear hx hro hs hx0 jo;go_wp2_with fail;refine HC.out.mono ?_;rintro e w3 ⟨rfl,hb3⟩;go_wp2_with fail;go_roundw
    case rel=>exact⟨k+1,by simp,by omega,qe hb hb3⟩
    case measure=>simp[intOf];omega
  ·obtain rfl:k=n:=by omega
   have HB:=Qa hb;have oz:=Qa (HP0.out wo.drew (qf hb));have cb:wo.cell? ⟨y.sb,1,none⟩=some (ptr y.cy):=jo.cell 1;clear hb hlt c' hkn;go_upto_region 9 with fail;go_region_held3 (fun w'=>w'.cell? ⟨y.sb,1,none⟩=some (ptr y.cy)) (first|with_reducible assumption|go_keep) (first
    | (go_at_call 51;refine oz.out.mono ?_;rintro e w3 ⟨v3,rfl,hr3,hb3⟩;have cb3:=((qj jo).below hb3 jo.lt).cell 1)
    | (go_at_call 62;refine (HST.out _ _ (qf HB.out) hb3 _ hr3).mono ?_;rintro e w4 ⟨v4,o4,rfl,dR,hr4,hs4⟩;have cb4:w4.cell? ⟨y.sb,1,none⟩=some (ptr y.cy):=by { obtain⟨_,_,_,j4,_⟩:=dR.AM;exact j4.cell 1 })
    | fail)
   obtain⟨ms,hms⟩:=Ja0 ((S.places ps).map (S.begun ps).H.now);obtain⟨L,hL⟩:=Ja0 ((S.places ps).length);have hLm:ms.length=L:=by rw[hms,hL,Qg]
   have hkL:k<=L:=by rw[hL,HN.out];unfold An.places;simp only[Qd];omega
   rw[<-hms,<-hL]at hr4;obtain⟨g,cap,rfl,hcap⟩:∃ g cap,v4=Ah (some ⟨g,0,none⟩) L cap/\L<=cap:=by
    rcases hr4.shape with ⟨_,h0⟩|⟨g,cap,e,hc,_⟩
    ·omega
    ·exact⟨g,cap,e,hc⟩
   have Afh:=hr4.shape;have P4:Dt w4 g 0 ms cap:=by rw[<-hLm]at hr4;exact hr4.Wq
   have hgt:o4 g=(NN,1):=hr4.CZ;have HCl:=Qa (Uv (hr4.takeN hkL) (by omega) (fun u hu=>tt ms u (List.mem_of_mem_take hu)) (y.l.id+1,0))
   have yQ:=Qa dR;have Amd:=Qa hs4;have HMS:=Qa hms;have HLL:=Qa hL;have HLM:=Qa hLm;have HKL:=Qa hkL;have hcL:(L:Int)<=(cap:Int):=by omega
   have gT:(k:Int)<=(L:Int):=by omega
   have hkc:(k:Int)<=(cap:Int):=by omega
   have hk0:(0:Int)<=(k:Int):=by omega
   have hnx:=ou.out.qu;have hnx2:=ou.out.Lr;have Agh:(S.begun ps).queue.length<=1099511627776:=by omega
   obtain⟨q1,hq1,P5⟩:=P4.drop (n:=k) (by rw[hLm];exact hkL)
   simp only[Nat.zero_add]at hq1;have hlq:(S.begun ps).queue.length<=(ms.drop k).length:=by
    rw[Ad,hLm,hL,HN.out];unfold An.places;simp only[Qd,Qg];have:(S.begun ps).queue=S.queue:=rfl;rw[this];omega
   have hdl:(ms.drop k).length=L-k:=by rw[Ad,hLm]
   obtain⟨_,_,_,j4,_⟩:=dR.AM;unfold qw at j4;have c4:=j4.cell;have HPQ:=Qa (fun (w5:Aa)(hb5:Ae w4.1.size w4 w5)=>qht ((dR.retag (o':=ext o4 w4.1.size (y.l.id+1,0)) fun b hb=>qr hb).below hb5) (P5.below hb5) (by rw[qr P5.lt,hgt];have:=uK.out;simp only;omega) hlq Agh)
   have HGT:=Qa (show (ext o4 w4.1.size (y.l.id+1,0)) g=(NN,1) from by rw[qr P5.lt];exact hgt)
   rw[hdl]at HPQ;clear hr4 hms hL hLm hkL dR hs4 Afh jo cb cb3 cb4 hb3 hr3 hnx hnx2 Agh hlq hdl P4;go_wp2_with fail;refine HCl.out.mono ?_;rintro e w5 ⟨v5,rfl,dQ,hb5⟩;obtain⟨p5,c5,rfl⟩:=dQ.AS;obtain⟨q2,pt5,ct5,vl5,vm5,j5,P6,hC5⟩:=HPQ.out w5 hb5;have wM:=Qa hC5;have HJ5:=Qa j5;unfold qw at j5;have cc5:=j5.cell;clear c4 j4 hC5 HPQ;go_wp2_with fail;refine wM.out.mono ?_;rintro e w6 ⟨rfl,eU,hs6⟩;obtain⟨S1,hS1⟩:=Ja0 (S.begun ps);obtain⟨f,hf⟩:=Ja0 ((S.begun ps).H.now);have hdrop:ms.drop k=(S1.queue.map (·.1)).map f++(E4 S1.Au 0).map f:=by
    have e:S.places ps=ps++(S1.queue.map (·.1)++E4 S1.Au 0):=by rw[hS1];unfold An.places E4;rw[List.drop_zero,af];rfl
    rw[HMS.out,<-hf,e,Qx,aa (by rw[Qg];exact HN.out.symm),Qx]
   have hput:vi S1.queue (ms.drop k)=E7 f S1.queue:=by rw[hdrop,Tq]
   have lM:(ms.drop k).drop S1.queue.length=(E4 S1.Au 0).map f:=by rw[hdrop,aa (by simp)]
   have rO:((E4 S1.Au 0).map f).length=L-k-S1.queue.length:=by rw[<-lM,Ad,Ad,HLM.out]
   rw[<-hS1]at eU P6 ou;rw[<-hS1];rw[hput,<-qou]at eU;rw[lM]at P6;have hgn:¬(fun t=>t=(y.l.id,13)) ((ext o4 w4.1.size (y.l.id+1,0)) g):=by rw[HGT.out];simp
   have P7:=P6.Ao hs6 hgn;have eY:=dQ.Ao hs6 (by simp)
   have hs7:Stp (qo y) o (ext o4 w4.1.size (y.l.id+1,0)) w w6:=(Amd.out.trans ((Stp.of_below hb5).ext _ _ (Qk _))).trans (hs6.mono (by rintro _ rfl;exact rfl))
   obtain⟨gt,ct,qG,hct,uZ⟩:=eU.DW (by rw[Tr];exact ou.out.t1)
   rw[Tr]at qG hct uZ;have AFf:gt<w6.1.size:=by
    have h1:=eU.DV;rw[qG]at h1;exact h1.blt
   obtain⟨_,_,_,j6,_⟩:=eU.AM;unfold qw at j6;rw[qG]at j6;have c6:=j6.cell;have h8:=ou.out.t8;have iW:=Qa hS1;have HF:=Qa hf;have HR6:=Qa eY;have HMM:Hid (ms=(S.places ps).map (S.begun ps).H.now):=HMS.out;have HTH:=Qa (fun (w7:Aa)(o7:Own)(q:Nat)(h7:Aq w7 o7 y (S1.upto f q))(t:Nat)(ht:t<S1.Au.length)=>show w7.cell? ⟨gt,t,none⟩=some (ptr (y.xb t)) from by
    obtain⟨g',c',e',h',_⟩:=h7.DD t (by rw[Tr];exact ht)
    rw[qG]at e';injection e' with e1;injection e1 with e1;injection e1 with e1;rw[e1];exact h')
   obtain⟨qn,hqn⟩:=Ja0 S1.queue.length;rw[<-hqn]at rO P7 ⊢;generalize hN8:S1.Au.length=N8 at *;have HN8:=Qa hN8;have HL0:=Qa rO;have HX:=Qa (Ai eU (Ai P7 hs7));clear eU P6 P7 hs6 hs7 dQ eY hb5 wM HJ5 j5 cc5 hdrop hput lM hS1 hf hgn hct hqn hN8 rO HLL;clear P5 hq1;go_wp2_with fail;clear c6 j6;go_loopw [8,72] (fun vv ix wr=>∃ (j:Nat)(oo:Own)(off C:Nat)(R:List Nat),ix=I Z j/\j<=N8/\vv=Ah (some ⟨g,off,none⟩) R.length C/\R=(E4 S1.Au j).map f/\Dt wr g off R C/\Aq wr oo y (S1.upto f j)/\oo g=(NN,1)/\Row wr oo (y.l.id+1,0) 3 1 (.slice p5 k c5) k ((ms.map nv).take k)/\Stp (qo y) o oo w wr) (fun _ ix _=>N8-(intOf ix).toNat)
   case atStart=>exact⟨0,_,q2,_,_,rfl,Nat.zero_le _,by rw[HL0.out],rfl,HX.out.2.1,HX.out.1,HGT.out,HR6.out,HX.out.2.2⟩
   case round =>
    clear HX HR6 HGT;obtain⟨j,oo,off,C,R,rfl,hjn,rfl,hR,hP,hS,hgo,hrw,hst⟩:=hrel;obtain⟨wi,rfl⟩:=Ja0 wr;by_cases hj:j<N8
    ·have hjI:(j:Int)<(N8:Int):=by omega
     have hj':j<S1.Au.length:=by rw[HN8.out];exact hj
     have hju:j<(S1.upto f j).Au.length:=by rw[Tr];exact hj'
     have ct0:=HTH.out wi oo j hS j hj;have hfit:(S1.t j).log.fit:=ou.out.Ee hj';have hto:=ou.out;have htx:=hS.Au j _ (An.AV hju);rw[Ld S1 f hj']at htx;have hut:=Ld S1 f hj';obtain⟨vr,vk,vh,vu,hl⟩:=htx.log;have wS:=Qa (YU hl hfit);obtain⟨vt,jx,_⟩:=htx.AM;have hRs:R=(S1.t j).log.roots.map f++(((S1.t j).AP.map (·.1)).map f++(E4 S1.Au (j+1)).map f):=by rw[hR,K9 hj',Qx,Qx]
     obtain⟨n1,hn1⟩:=Ja0 ((S1.t j).log.roots.length);obtain⟨n2,hn2⟩:=Ja0 ((S1.t j).AP.length);have hRl:R.length=n1+(n2+((E4 S1.Au (j+1)).map f).length):=by rw[hRs,hn1,hn2];simp only[Qd,Qg]
     have htk:R.take n1=(S1.t j).log.roots.map f:=by rw[hRs,hn1,ag (by simp)]
     have FE:R.drop n1=((S1.t j).AP.map (·.1)).map f++(E4 S1.Au (j+1)).map f:=by rw[hRs,hn1,aa (by simp)]
     have hdd:(R.drop n1).drop n2=(E4 S1.Au (j+1)).map f:=by rw[FE,hn2,aa (by simp)]
     have hle1:n1<=R.length:=by omega
     have Aaf:(oo g).1≠y.l.id:=by rw[hgo];have:=uK.out;simp only;omega
     have PT:=hP.take hle1;obtain⟨q3,hq3,PD⟩:=hP.drop hle1;have Aau:(R.take n1).length=n1:=by rw[Qp];omega
     have hqj:(S1.t j).AP.length<=1099511627776:=by
      have h1:=UO _ _ _ (An.AV hj');have h2:=ou.out.qu;have h3:=ou.out.Lr;omega
     have HRp:=Qa (fun (w3:Aa)(hb3:Ae wi.1.size wi w3)=>show Ab ARt 66 #[ptr (y.lb j),Ah (some ⟨g,off,none⟩) n1 C] w3 fun e w5=>e=O (.bool true) /\
       ∃ q4 pt ct,Al w5 (y.xb j) #[I Z j,.bool (S1.t j).live,I Z (S1.t j).start,I Z (S1.t j).seen,ptr (y.lb j),.slice pt n2 ct] 107 /\
       Ab ARt 64 #[.slice pt n2 ct,Ah (some ⟨g,q3,none⟩) (R.length-n1) (C-n1)] w5.drew fun e w6=>e=O (Ah (some ⟨g,q4,none⟩) (R.length-n1-n2) (C-n1-n2)) /\
        ∃ o6,Dt w6 g q4 ((E4 S1.Au (j+1)).map f) (C-n1-n2)/\Aq w6 o6 y (S1.upto f (j+1))/\o6 g=(NN,1)/\Row w6 o6 (y.l.id+1,0) 3 1 (.slice p5 k c5) k ((ms.map nv).take k)/\Stp (qo y) o o6 w w6 from by
      have hr1:=qg6 (hS.below hb3) (by rw[hut];exact hfit) hju (PT.below hb3) Aaf (by rw[hut,Aau,hn1])
      rw[Aau]at hr1;refine hr1.mono ?_;rintro e w5 ⟨rfl,o5,hS5,hs5⟩;rw[hut]at hS5;replace hS5:=hS5.below (qf (qd w5));have vM:Stp (qo y) oo o5 wi w5.drew:=((Stp.of_below hb3).trans (hs5.mono fun _ h=>h.1)).drew;have hg5:o5 g=(NN,1):=(vM.tags _ hP.lt).trans hgo;have PD5:=PD.Ao vM Aaf;have h5t:((S1.upto f j).tx j ((S1.t j).D6 (R.take n1))).t j=(S1.t j).D6 (R.take n1):=An.FM hju _;have h5l:j<((S1.upto f j).tx j ((S1.t j).D6 (R.take n1))).Au.length:=by rw[An.Cq];exact hju
      have e2:(((S1.upto f j).tx j ((S1.t j).D6 (R.take n1))).t j).AP.length=n2:=by rw[h5t,hn2];rfl
      have Afo:(R.drop n1).length=R.length-n1:=by rw[Ad]
      obtain⟨q4,pt,ct,j5,P6,hC⟩:=qke hS5 h5l PD5 (by rw[hg5];have:=uK.out;simp only;omega) (by rw[e2,Afo];omega) (by rw[e2,hn2];exact hqj)
      rw[e2]at j5 P6 hC;rw[Afo]at hC;rw[h5t]at j5 hC;refine⟨rfl,q4,pt,ct,j5,hC.mono ?_⟩;rintro e w6 ⟨rfl,eU,hs6⟩;have Aao:Stp (qo y) o5 o5 w5.drew w6:=hs6.mono (by rintro _ rfl;exact rfl)
      rw[hdd]at P6;have e3:(((S1.upto f j).tx j ((S1.t j).D6 (R.take n1))).tx j (((S1.t j).D6 (R.take n1)).Kk (R.drop n1)))=S1.upto f (j+1):=by
       rw[An.Td,qn5 S1 f hj',htk,FE,F3]
      rw[e3]at eU;refine⟨rfl,o5,P6.Ao Aao (by rw[hg5];have:=uK.out;intro e;have e:NN=y.l.id:=e;omega),eU,hg5,?_,(hst.trans vM).trans Aao⟩
      exact (hrw.Ao vM (qy y)).Ao Aao (qy y))
     have Aoq:(n1:Int)<=(R.length:Int):=by omega
     have Aop:(n1:Int)<=(C:Int):=by have:=hP.cap;omega
     have hRC:(R.length:Int)<=(C:Int):=by have:=hP.cap;omega
     have Aoo:(0:Int)<=(n1:Int):=by omega
     have Apa:=jd j (by omega)
     have HL9:=Qa (show ((E4 S1.Au (j+1)).map f).length=R.length-n1-n2 from by omega)
     unfold zw at jx;have kU:=Qa jx;have cx:=jx.cell;rw[<-hn1]at wS;obtain⟨hw1,hw2⟩:=Apa;generalize R.length=RL at *;clear hfit hto htx hut hl hRs hn1 hn2 hRl htk FE hdd hle1 Aaf PT PD Aau hqj hS hP hgo hrw hst hR hju;go_wp2_with fail;refine wS.out.mono ?_;rintro e w3 ⟨v3,rfl,hr3,hb3⟩;obtain⟨p3,c3,rfl⟩:=hr3.AS;have Adt:=Qa (HRp.out _ (qf hb3));have cx3:=(kU.out.below hb3 kU.out.lt).cell;clear hr3 cx HRp wS ct0;go_upto_region 17 with fail;go_still_tail 7,(by kernel_rfl)
     change wpList _ _ _ _ _ w3.drew;go_wp2_with (first|(go_at_call 66;refine Adt.out.mono ?_;rintro e w5 ⟨rfl,q4,pt,ct9,j5,hC⟩)|fail)
     have HC9:=Qa hC;have cx5:=j5.cell;clear hC cx3 Adt;go_upto_region 18 with fail;go_still_tail 7,(by kernel_rfl)
     change wpList _ _ _ _ _ w5.drew;go_wp2_with (first|(go_at_call 64;refine HC9.out.mono ?_;rintro e w6 ⟨rfl,o6,hP6,eU,hg6,eY,hs6⟩)|fail)
     have HX6:=Qa (Ai hP6 (Ai eU (Ai hg6 (Ai eY hs6))));clear hP6 eU hg6 eY hs6 HC9 cx5 j5;go_roundw
     case rel=>exact⟨j+1,o6,q4,_,_,by simp,hj,by rw[HL9.out],rfl,HX6.out.1,HX6.out.2.1,HX6.out.2.2.1,HX6.out.2.2.2.1,HX6.out.2.2.2.2⟩
     case measure =>
      clear hw1 hw2 hcL gT hkc hk0 Aoq Aop hRC Aoo hn2 h8 uZ hjI hcap;simp[intOf];omega
    ·obtain rfl:j=N8:=by omega
     have hSf:Aq wi oo y ((S.begun ps).at' (S.begun ps).H.now):=by
      rw[<-HN8.out,Lc,iW.out,HF.out]at hS;exact hS
     have hrf:Row wi oo (y.l.id+1,0) 3 1 (.slice p5 k c5) k ((ps.map (S.begun ps).H.now).map nv):=by
      have e:(ms.map nv).take k=(ps.map (S.begun ps).H.now).map nv:=by
       rw[HMM.out];unfold An.places;rw[Qx,Qx,Qx,Qx,af,ag (by rw[Qg,Qg];exact HN.out.symm)]
      rw[<-e];exact hrw
     have HX7:=Qa (Ai hSf (Ai hrf hst));clear hS hP hgo hrw hst hR hSf hrf;go_wp2_with fail;go_ret2;exact⟨_,oo,rfl,HX7.out⟩
end
end
section
open Go.RowKit Hp
section
variable {w w' : Aa} {o o' : Own} {y : A6} {S : An}
def qhc (h:Aq w o y S)(hk:S.ok){v:Ac}{ps:List Nat}{ta:Tag}(hv:Row w o ta 3 1 v ps.length (ps.map nv))(hp:ps.length<=100000)(hp1:1<=ps.length) :
  Ab ARt 18 #[ptr y.sb,v] w fun e w'=>∃ v' o',e=O (Aj #[v',.bool (S.AF ps).2.2])/\Aq w' o' y (S.AF ps).1/\Row w' o' (y.l.id+1,0) 3 1 v' (S.AF ps).2.1.length ((S.AF ps).2.1.map nv)/\Stp (qo y) o o' w w':=by
 unfold An.AF;by_cases hm:S.may ps=true
 ·rw[if_pos hm]
  simp only[Qg];exact qjt h hk hv hp hp1 hm
 ·rw[if_neg hm]
  have fin:∀ w',Ae w.1.size w w'->∃ v' o',Ending.returned (Aj #[Ah none 0 0,.bool false])=O (Aj #[v',.bool false])/\Aq w' o' y S/\Row w' o' (y.l.id+1,0) 3 1 v' ([]:List Nat).length (([]:List Nat).map nv)/\Stp (qo y) o o' w w':=
   fun w' hb=>⟨_,o,rfl,h.below hb,Row.nil _ _ _ _ _,Stp.of_below hb⟩
  by_cases h0:S.ph=0
  ·have hb:ps.all (ul S.H)=false:=by
    cases ha:ps.all (ul S.H) with
    | false=>rfl
    | true =>
     refine absurd ?_ hm;unfold An.may;rw[decide_eq_true h0,Bool.true_and];exact ha
   refine (qib h hk h0 hv hp hb).mono ?_;rintro e w'⟨rfl,hb⟩;exact fin w' hb
  ·obtain⟨pa,cp,rfl⟩:=hv.AS
   refine (qgd h hk h0 pa ps.length cp).mono ?_;rintro e w'⟨rfl,rfl⟩;exact fin w (qd w)
