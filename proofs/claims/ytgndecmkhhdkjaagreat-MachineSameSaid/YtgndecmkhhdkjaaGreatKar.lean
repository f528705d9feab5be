import Derived.Test.YtgndecmkhhdkjaaGreatKao
set_option linter.all false
set_option maxRecDepth 1000000
set_option maxHeartbeats 0
open Go renaming World->Aa,Calls->Ab,Value->Ac
open Go.RowKit renaming Below->Ae
open Go.Value renaming int->I,tuple->Ak,agg->Al
open Go.IntKind renaming i64->Z
open Go.Ending renaming returned->O
open Int renaming toNat_of_nonneg->Ad
open Go.Obj renaming cells->ANb
namespace Go.Proofs.YtgndecmkhhdkjaaGreat
open Go.RowKit Hp
attribute [local go_sem ↓] Go.wp_at_zero Go.wp_at_succ
section
variable {w w' : Aa} {o o' : Own} {y : Bl} {S : Am} {i : Nat}
def Y0 (S:Am)(i:Nat)(fi fn:Int)(rb:Nat)(kd:Int)(R:B2):Prop:=
 S.DY i=true/\((kd=1/\R=(S.alloc i ⟨fi.toNat,fn.toNat,false,false⟩)/\(0<=fi/\fi<=4)/\0<=fn/\fn<=4)\/(kd=2/\R=(S.alloc i ⟨fi.toNat,fn.toNat,false,true⟩)/\(0<=fi/\fi<=4)/\0<=fn/\fn<=4)\/(kd=3/\R=(S.AA i rb)/\EL S rb)\/(kd=4/\R=(S.get i rb fi.toNat)/\EL S rb/\0<=fi)\/(kd=9/\R=(S.load i rb)/\EL S rb)\/(kd=10/\R=(S.take i)))
def y8 (hS:Av w o y S) (hI:Inv S) (hb hn a0 a1 a2 a3 a4 a5 s0 s1 s2 s3 s4 s5:Int) (hl:Bool) (A B:Nat) (fi fn:Int) (ra rb:Nat) (kd:Int) (R:B2) (hkd:Y0 S i fi fn rb kd R)
  (hp:R.e=0->∃ p:Nat,R.v=p/\EL R.S p) (hA:A<6) (hB:B<6) (hra:R6.get ⟨a0,a1,a2,a3,a4,a5⟩ A=ra) (hrb:R6.get ⟨a0,a1,a2,a3,a4,a5⟩ B=rb) (hn0:0<=hn/\hn<=4096) (hb0:0<=hb/\hb<=4096) :
  Ab Tryz.prog 62 #[ptr y.sb,i,Al #[kd,I Z A,I Z B,fi,fn],Al #[hb,hn,a0,a1,a2,a3,a4,a5,s0,s1,s2,s3,s4,s5,hl]] w fun e' w'=>e'=O (Ak #[(AE.D3 ⟨hb,hn,⟨a0,a1,a2,a3,a4,a5⟩,⟨s0,s1,s2,s3,s4,s5⟩,hl⟩ A R.v R.e).v,(Gz (R.S.Bc R.v.toNat) R.e).val])/\Left y R.S o w w':=by
 have fH:∀ (fn:Fn) (first cap:Array Ac) (w:Aa),(Instr.makeFunc fn first cap).run Tryz.prog w=.ok (.func fn first cap) w:=fun _ _ _ _=>rfl
 obtain⟨o1,ho1,dN,hS0⟩:=PRe o w (y.l.id+1,0) (qi y);have h1:=hS.retag dN;clear dN
 have hbx:∀ b,w.1.size<=b->Du y (o1 b):=fun b hb=>by rw[ho1];exact qq hb
 clear ho1 hS;obtain⟨W,hW⟩:=Ja0 ((((((w.alloc (ANb #[ptr y.sb] 58)).alloc (ANb #[kd,I Z A,I Z B,fi,fn] 44)).alloc (ANb #[hb,hn,a0,a1,a2,a3,a4,a5,s0,s1,s2,s3,s4,s5,hl] 49)).alloc (ANb #[(),(),(),(),(),(),(),(),(),(),(),(),(),(),false] 49)).alloc (ANb #[(),(),()] 33)).alloc (ANb #[.func (.func 85) #[] #[ptr (w.1.size+1+1)]] 166));have hbW:Ae w w W:=by rw[hW];exact qc (qc (qc (qc (qc (qc (qd w) _) _) _) _) _) _
 have k0:An W w #[ptr y.sb] 58:=by rw[hW];exact (((((An.new w _ _).alloc _).alloc _).alloc _).alloc _).alloc _
 have k1:An W (w.1.size+1) #[kd,I Z A,I Z B,fi,fn] 44:=by rw[hW];exact ((((An.Ax _ _ _ _ _ (by simp) rfl).alloc _).alloc _).alloc _).alloc _
 have k2:An W (w.1.size+1+1) #[hb,hn,a0,a1,a2,a3,a4,a5,s0,s1,s2,s3,s4,s5,hl] 49:=by rw[hW];exact (((An.Ax _ _ _ _ _ (by simp) rfl).alloc _).alloc _).alloc _
 have k3:An W (w.1.size+1+1+1) #[(),(),(),(),(),(),(),(),(),(),(),(),(),(),false] 49:=by rw[hW];exact ((An.Ax _ _ _ _ _ (by simp) rfl).alloc _).alloc _
 have k4:An W (w.1.size+1+1+1+1) #[(),(),()] 33:=by rw[hW];exact (An.Ax _ _ _ _ _ (by simp) rfl).alloc _
 have k5:An W (w.1.size+1+1+1+1+1) #[.func (.func 85) #[] #[ptr (w.1.size+1+1)]] 166:=by rw[hW];exact An.Ax _ _ _ _ _ (by simp) rfl
 have hSW:=h1.below hbW;have bX:Stp (qi y) o o1 w W:=hS0.trans (Stp.of_below hbW);have AI:(A:Int)<6:=by omega
 have BI:(B:Int)<6:=by omega
 have HB:=Qa hbx;have HL:=Qa (fun X o2 (h2:Av X o2 y R.S) (hI2:Inv R.S) (j10:An X (w.1.size+1+1+1+1+1) #[.func (.func 85) #[] #[ptr (w.1.size+1+1)]] 166) (j7:An X (w.1.size+1+1) #[hb,hn,a0,a1,a2,a3,a4,a5,s0,s1,s2,s3,s4,s5,hl] 49) (j6:An X (w.1.size+1) #[kd,I Z A,I Z B,fi,fn] 44) (j4:An X w #[ptr y.sb] 58) (t7:Du y (o2 (w.1.size+1+1)))=>Ml R h2 hI2.ok ⟨hb,hn,⟨a0,a1,a2,a3,a4,a5⟩,⟨s0,s1,s2,s3,s4,s5⟩,hl⟩ ⟨kd,A,B,fi,fn⟩ hp hA hn0 hb0 j10 j7 j6 j4 t7 (by omega) (by omega))
 obtain⟨H',jG⟩:=Ja0 (AE.D3 ⟨hb,hn,⟨a0,a1,a2,a3,a4,a5⟩,⟨s0,s1,s2,s3,s4,s5⟩,hl⟩ A R.v R.e);obtain⟨A',hA'⟩:=Ja0 (Gz (R.S.Bc R.v.toNat) R.e);rw[<-jG,<-hA'];have HL:=Qa (fun X o2 (h2:Av X o2 y R.S) (hI2:Inv R.S) j10 j7 j6 j4 t7=>by have:=HL.o X o2 h2 hI2 j10 j7 j6 j4 t7;simp only at this;rw[<-jG,<-hA']at this;exact this)
 obtain⟨b',n',⟨r0,r1,r2,r3,r4,r5⟩,⟨p0,p1,p2,p3,p4,p5⟩,hl'⟩:=H';obtain⟨ak,ae,av⟩:=A';have HL:=Qa (fun X o2 (h2:Av X o2 y R.S) (hI2:Inv R.S) j10 j7 j6 j4 t7=>show Ab Tryz.prog 87 #[R.v,R.e,ptr (w.1.size+1+1+1+1+1),ptr (w.1.size+1+1),ptr (w.1.size+1),ptr w] X fun e' w'=>e'=O (Ak #[Al #[b',n',r0,r1,r2,r3,r4,r5,p0,p1,p2,p3,p4,p5,hl'],Al #[ak,ae,av]])/\Wr (w.1.size+1+1) X w' from HL.o X o2 h2 hI2 j10 j7 j6 j4 t7)
 obtain⟨hc,hkd⟩:=hkd;rcases hkd with ⟨rfl,hR,hfi,hfn⟩|⟨rfl,hR,hfi,hfn⟩|⟨rfl,hR,hpb⟩|⟨rfl,hR,hpb,hfi⟩|⟨rfl,hR,hpb⟩|⟨rfl,hR⟩
 all_goals first
  | (have HC:=Qa (fun X o2 (h2:Av X o2 y S)=>(by have:=YE h2 hI hc ⟨fi.toNat,fn.toNat,false,false⟩ ⟨by show fi.toNat<=8;omega,by show fn.toNat<=8;omega,fun h=>by cases h⟩ rfl ;unfold ka at this;simp only at this;rw[Ad hfi.1,Ad hfn.1]at this;exact this));rw[<-hR]at HC)
  | (have HC:=Qa (fun X o2 (h2:Av X o2 y S)=>(by have:=YE h2 hI hc ⟨fi.toNat,fn.toNat,false,true⟩ ⟨by show fi.toNat<=8;omega,by show fn.toNat<=8;omega,fun h=>by cases h⟩ rfl ;unfold ka at this;simp only at this;rw[Ad hfi.1,Ad hfn.1]at this;exact this));rw[<-hR]at HC)
  | (have HC:=Qa (fun X o2 (h2:Av X o2 y S)=>NZ h2 hI hc hpb );rw[<-hR]at HC)
  | (have HC:=Qa (fun X o2 (h2:Av X o2 y S)=>(by have:=Q8 h2 hI hc hpb fi.toNat;rw[Ad hfi]at this;exact this));rw[<-hR]at HC)
  | (have HC:=Qa (fun X o2 (h2:Av X o2 y S)=>NW h2 hI hc hpb);rw[<-hR]at HC)
  | (have HC:=Qa (fun X o2 (h2:Av X o2 y S)=>NY h2 hI hc);rw[<-hR]at HC)
 all_goals
  clear hR jG hA' hp hc hI hn0 hb0 h1 hS0 hbx;try clear hfi
  try clear hfn
  try clear hpb
  go_enter Tryz.func62,Tryz.ntmps62;go_upto_region 3 with fail;rw[<-hW];clear hW;have cA:=jy (h:=⟨hb,hn,⟨a0,a1,a2,a3,a4,a5⟩,⟨s0,s1,s2,s3,s4,s5⟩,hl⟩) k2 hA;have cB:=jy (h:=⟨hb,hn,⟨a0,a1,a2,a3,a4,a5⟩,⟨s0,s1,s2,s3,s4,s5⟩,hl⟩) k2 hB;rw[hra]at cA;rw[hrb]at cB;have c1:=k1.cell;have l2:=k2.lt;go_quiet (fail);obtain⟨V,hV⟩:=Ja0 (W.drewN nq);have dA:Ae W W V:=by rw[hV];exact zo (qd _) _
  rw[<-hV];clear hV cA cB c1 l2;replace k0:=k0.below dA k0.lt;replace k1:=k1.below dA k1.lt;replace k2:=k2.below dA k2.lt;replace k3:=k3.below dA k3.lt;replace k4:=k4.below dA k4.lt;replace k5:=k5.below dA k5.lt;replace hSW:=hSW.below dA;replace bX:=bX.trans (Stp.of_below dA);have c0:=k0.cell;have c1:=k1.cell;go_wp2_with fail;refine (HC.o _ _ hSW).mono ?_;rintro e2 w2 ⟨rfl,o2,hS2,hI2,hs2⟩;have tg:∀ b,w.1.size<=b->b<V.1.size->Du y (o2 b):=fun b q1 q2=>by have:=HB.o b q1;rw[<-hs2.tags b q2]at this;exact this
  have nt:∀ b,w.1.size<=b->¬qi y (o1 b):=fun b q1=>mc (HB.o b q1);have Anj:=k3.lt;have Ank:=k4.lt;have t2:=tg (w.1.size+1+1) (by omega) k2.lt
  replace k0:=k0.Ar hs2 (nt _ (by omega))
  replace k1:=k1.Ar hs2 (nt _ (by omega))
  replace k2:=k2.Ar hs2 (nt _ (by omega))
  replace k3:=k3.Ar hs2 (nt _ (by omega))
  replace k4:=k4.Ar hs2 (nt _ (by omega))
  replace k5:=k5.Ar hs2 (nt _ (by omega))
  have hs3:=bX.trans hs2;clear c0 c1;have HQ:=Qa (HL.o _ _ hS2 hI2 k5 k2 k1 k0 t2);clear HC HL tg nt;go_wp2_with fail;refine HQ.o.mono ?_;rintro e3 w3 ⟨rfl,hw3⟩;have cZ:=hS2.bx (Stp.Ci hw3 t2);have hs4:=hs3.Dm hw3 (by omega)
  have m3:=k3.wr hw3 (by omega)
  have m4:=k4.wr hw3 (by omega)
  have c3:=m3.cell;have z3:=m3.free;have l3:=m3.lt;have c4:=m4.cell;have z4:=m4.free;have l4:=m4.lt;have hres:=Qa (ji m3 m4 (by omega) ⟨b',n',⟨r0,r1,r2,r3,r4,r5⟩,⟨p0,p1,p2,p3,p4,p5⟩,hl'⟩ ⟨ak,ae,av⟩)
  have hrs:=Qa (wj hs4 (b6:=(w.1.size+1+1+1)) (b7:=(w.1.size+1+1+1+1)) (by omega) (by omega) ⟨b',n',⟨r0,r1,r2,r3,r4,r5⟩,⟨p0,p1,p2,p3,p4,p5⟩,hl'⟩ ⟨ak,ae,av⟩)
  have fE:=Qa (cZ.bx (yg w3 (w.1.size+1+1+1) (w.1.size+1+1+1+1) (o:=o2) (by show Du y (o2 _);have:=HB.o (w.1.size+1+1+1) (by omega);rw[<-hs2.tags _ Anj]at this;exact this) (by show Du y (o2 _);have:=HB.o (w.1.size+1+1+1+1) (by omega);rw[<-hs2.tags _ Ank]at this;exact this) ⟨b',n',⟨r0,r1,r2,r3,r4,r5⟩,⟨p0,p1,p2,p3,p4,p5⟩,hl'⟩ ⟨ak,ae,av⟩))
  clear k0 k1 k2 k3 k4 k5 m3 m4 hw3 hs4 hs3 cZ bX hSW HQ;go_wp2_with fail;change bodyPost _ _ _ _ _ (js w3 (w.1.size+1+1+1) (w.1.size+1+1+1+1) ⟨b',n',⟨r0,r1,r2,r3,r4,r5⟩,⟨p0,p1,p2,p3,p4,p5⟩,hl'⟩ ⟨ak,ae,av⟩);generalize js w3 (w.1.size+1+1+1) (w.1.size+1+1+1+1) ⟨b',n',⟨r0,r1,r2,r3,r4,r5⟩,⟨p0,p1,p2,p3,p4,p5⟩,hl'⟩ ⟨ak,ae,av⟩=X at *;exact bodyPost_ret (qr _ _ 8 9 rfl rfl rfl hres.o.1 hres.o.2) rfl ⟨rfl,o2,fE.o,hI2,hrs.o⟩
end
section
variable {w w' : Aa} {o o' : Own} {y : Bl} {S : Am} {i : Nat}
def Tp (S:Am)(i:Nat)(fi fn:Int)(ra rb:Nat)(mk:Nat)(kd tv:Int)(R:B2):Prop:=
 S.DY i=true/\EL S ra/\((mk=0/\kd=8/\tv=0/\R=(S.free i ra))\/(mk=1/\kd=5/\tv=0/\R=(S.put i ra fi.toNat rb)/\EL S rb/\0<=fi)\/(mk=2/\kd=6/\tv=R.v/\R=(S.read i ra fi.toNat)/\0<=fi)\/(mk=3/\kd=7/\tv=0/\R=(S.write i ra fi.toNat fn)/\0<=fi/\-9223372036854775808<=fn/\fn<=9223372036854775807))
def fq (hS:Av w o y S) (hI:Inv S) (hb hn a0 a1 a2 a3 a4 a5 s0 s1 s2 s3 s4 s5:Int) (hl:Bool) (A B:Nat) (fi fn:Int) (ra rb:Nat) (mk:Nat) (kd tv:Int) (R:B2) (hkd:Tp S i fi fn ra rb mk kd tv R) (hA:A<6) (hB:B<6) (hra:R6.get ⟨a0,a1,a2,a3,a4,a5⟩ A=ra) (hrb:R6.get ⟨a0,a1,a2,a3,a4,a5⟩ B=rb) (hn0:0<=hn/\hn<=4096) (hb0:0<=hb/\hb<=4096) :
  Ab Tryz.prog 62 #[ptr y.sb,i,Al #[kd,I Z A,I Z B,fi,fn],Al #[hb,hn,a0,a1,a2,a3,a4,a5,s0,s1,s2,s3,s4,s5,hl]] w fun e' w'=>e'=O (Ak #[(AE.ended ⟨hb,hn,⟨a0,a1,a2,a3,a4,a5⟩,⟨s0,s1,s2,s3,s4,s5⟩,hl⟩ R.e).v,(ky tv R.e).val])/\Left y R.S o w w':=by
 have fH:∀ (fn:Fn) (first cap:Array Ac) (w:Aa),(Instr.makeFunc fn first cap).run Tryz.prog w=.ok (.func fn first cap) w:=fun _ _ _ _=>rfl
 obtain⟨o1,ho1,dN,hS0⟩:=PRe o w (y.l.id+1,0) (qi y);have h1:=hS.retag dN;clear dN
 have hbx:∀ b,w.1.size<=b->Du y (o1 b):=fun b hb=>by rw[ho1];exact qq hb
 clear ho1 hS;obtain⟨W,hW⟩:=Ja0 ((((((w.alloc (ANb #[ptr y.sb] 58)).alloc (ANb #[kd,I Z A,I Z B,fi,fn] 44)).alloc (ANb #[hb,hn,a0,a1,a2,a3,a4,a5,s0,s1,s2,s3,s4,s5,hl] 49)).alloc (ANb #[(),(),(),(),(),(),(),(),(),(),(),(),(),(),false] 49)).alloc (ANb #[(),(),()] 33)).alloc (ANb #[.func (.func 85) #[] #[ptr (w.1.size+1+1)]] 166));have hbW:Ae w w W:=by rw[hW];exact qc (qc (qc (qc (qc (qc (qd w) _) _) _) _) _) _
 have k0:An W w #[ptr y.sb] 58:=by rw[hW];exact (((((An.new w _ _).alloc _).alloc _).alloc _).alloc _).alloc _
 have k1:An W (w.1.size+1) #[kd,I Z A,I Z B,fi,fn] 44:=by rw[hW];exact ((((An.Ax _ _ _ _ _ (by simp) rfl).alloc _).alloc _).alloc _).alloc _
 have k2:An W (w.1.size+1+1) #[hb,hn,a0,a1,a2,a3,a4,a5,s0,s1,s2,s3,s4,s5,hl] 49:=by rw[hW];exact (((An.Ax _ _ _ _ _ (by simp) rfl).alloc _).alloc _).alloc _
 have k3:An W (w.1.size+1+1+1) #[(),(),(),(),(),(),(),(),(),(),(),(),(),(),false] 49:=by rw[hW];exact ((An.Ax _ _ _ _ _ (by simp) rfl).alloc _).alloc _
 have k4:An W (w.1.size+1+1+1+1) #[(),(),()] 33:=by rw[hW];exact (An.Ax _ _ _ _ _ (by simp) rfl).alloc _
 have k5:An W (w.1.size+1+1+1+1+1) #[.func (.func 85) #[] #[ptr (w.1.size+1+1)]] 166:=by rw[hW];exact An.Ax _ _ _ _ _ (by simp) rfl
 have hSW:=h1.below hbW;have bX:Stp (qi y) o o1 w W:=hS0.trans (Stp.of_below hbW);have AI:(A:Int)<6:=by omega
 have BI:(B:Int)<6:=by omega
 have HB:=Qa hbx;have HT:=Qa (fun X (j7:An X (w.1.size+1+1) #[hb,hn,a0,a1,a2,a3,a4,a5,s0,s1,s2,s3,s4,s5,hl] 49)=>gd ⟨hb,hn,⟨a0,a1,a2,a3,a4,a5⟩,⟨s0,s1,s2,s3,s4,s5⟩,hl⟩ tv R.e hn0 hb0 X j7)
 obtain⟨H',jG⟩:=Ja0 (AE.ended ⟨hb,hn,⟨a0,a1,a2,a3,a4,a5⟩,⟨s0,s1,s2,s3,s4,s5⟩,hl⟩ R.e);obtain⟨A',hA'⟩:=Ja0 (ky tv R.e);rw[<-jG,<-hA']at HT ⊢;obtain⟨b',n',⟨r0,r1,r2,r3,r4,r5⟩,⟨p0,p1,p2,p3,p4,p5⟩,hl'⟩:=H';obtain⟨ak,ae,av⟩:=A';have HT:=Qa (fun X j7=>show Ab Tryz.prog 85 #[tv,R.e,ptr (w.1.size+1+1)] X fun e' w'=>e'=O (Ak #[Al #[b',n',r0,r1,r2,r3,r4,r5,p0,p1,p2,p3,p4,p5,hl'],Al #[ak,ae,av]])/\Ae X X w' from HT.o X j7)
 obtain⟨hc,hpa,hkd⟩:=hkd;rcases hkd with ⟨hmk,rfl,rfl,hR⟩|⟨hmk,rfl,rfl,hR,hpb,hfi⟩|⟨hmk,rfl,htv,hR,hfi⟩|⟨hmk,rfl,rfl,hR,hfi,hfn⟩
 all_goals first
  | (have HC:=Qa (fun X o2 (h2:Av X o2 y S)=>NU h2 hI hc hpa);rw[<-hR]at HC)
  | (have HC:=Qa (fun X o2 (h2:Av X o2 y S)=>(by have:=Q9 h2 hI hc hpa hpb fi.toNat;rw[Ad hfi]at this;exact this));rw[<-hR]at HC)
  | (have HC:=Qa (fun X o2 (h2:Av X o2 y S)=>(by have:=NX h2 hI hc hpa fi.toNat;rw[Ad hfi]at this;exact this));rw[<-hR,<-htv]at HC;clear htv)
  | (have HC:=Qa (fun X o2 (h2:Av X o2 y S)=>(by have:=LA h2 hI hc hpa fi.toNat fn hfn;rw[Ad hfi]at this;exact this));rw[<-hR]at HC)
 all_goals
  clear hR jG hA' hc hI hn0 hb0 h1 hS0 hbx hpa;try clear hfi
  try clear hfn
  try clear hpb
  go_enter Tryz.func62,Tryz.ntmps62;go_upto_region 3 with fail;rw[<-hW];clear hW;have cA:=jy (h:=⟨hb,hn,⟨a0,a1,a2,a3,a4,a5⟩,⟨s0,s1,s2,s3,s4,s5⟩,hl⟩) k2 hA;have cB:=jy (h:=⟨hb,hn,⟨a0,a1,a2,a3,a4,a5⟩,⟨s0,s1,s2,s3,s4,s5⟩,hl⟩) k2 hB;rw[hra]at cA;rw[hrb]at cB;have c1:=k1.cell;have l2:=k2.lt;go_quiet (fail);obtain⟨V,hV⟩:=Ja0 (W.drewN nq);have dA:Ae W W V:=by rw[hV];exact zo (qd _) _
  rw[<-hV];clear hV cA cB c1 l2;replace k0:=k0.below dA k0.lt;replace k1:=k1.below dA k1.lt;replace k2:=k2.below dA k2.lt;replace k3:=k3.below dA k3.lt;replace k4:=k4.below dA k4.lt;replace k5:=k5.below dA k5.lt;replace hSW:=hSW.below dA;replace bX:=bX.trans (Stp.of_below dA);have c0:=k0.cell;have c1:=k1.cell;first
   | (have _hz:mk=0:=hmk;go_upto_region 23 with fail)
   | (have _hz:mk=1:=hmk;go_upto_region 17 with fail)
   | (have _hz:mk=2:=hmk;go_upto_region 19 with fail)
   | (have _hz:mk=3:=hmk;go_upto_region 21 with fail)
  have hbD:=qf (qd V);have hSD:=hSW.below hbD;have hsD:=bX.trans (Stp.of_below hbD);have q0:=k0;have q1:=k1;have q5:=k5;have x0:=q5.cell 0;have x1:=q0.cell 0;have x2:=q1.cell 3;have x3:=q1.cell 4;simp at x0 x1 x2 x3;have tg:∀ (X:Aa) (o2:Own),Stp (qi y) o1 o2 V.drew X->∀ b,w.1.size<=b->b<V.1.size->Du y (o2 b):=fun X o2 hs2 b q1 q2=>by have:=HB.o b q1;rw[<-hs2.tags b q2]at this;exact this
  have nt:∀ b,w.1.size<=b->¬qi y (o1 b):=fun b q1=>mc (HB.o b q1);have n53:(w.1.size+1+1+1+1+1)≠(w.1.size+1+1+1):=by omega
  have n54:(w.1.size+1+1+1+1+1)≠(w.1.size+1+1+1+1):=by omega
  have n03:w.1.size≠(w.1.size+1+1+1):=by omega
  have n04:w.1.size≠(w.1.size+1+1+1+1):=by omega
  have n13:(w.1.size+1)≠(w.1.size+1+1+1):=by omega
  have n14:(w.1.size+1)≠(w.1.size+1+1+1+1):=by omega
  have TG:=Qa tg;have NT:=Qa nt;have HSD:=Qa hSD;have HsD:=Qa hsD;have K0:=Qa k0;have K1:=Qa k1;have K2:=Qa k2;have K3:=Qa k3;have K4:=Qa k4;have K5:=Qa k5;clear c0 c1 q0 q1 q5 k0 k1 k2 k3 k4 k5 tg nt hSD hsD hSW bX hbD hbW;go_region_held3 (fun w'=>w'.cell? ⟨(w.1.size+1+1+1+1+1),0,none⟩=some (.func (.func 85) #[] #[ptr (w.1.size+1+1)])/\w'.cell? ⟨w,0,none⟩=some (ptr y.sb)/\w'.cell? ⟨(w.1.size+1),3,none⟩=some (I Z fi)/\w'.cell? ⟨(w.1.size+1),4,none⟩=some (I Z fn)) (first|(refine⟨?_,?_,?_,?_⟩<;>with_reducible assumption)|(refine⟨?_,?_,?_,?_⟩<;>(repeat (refine V5 ?_ (by with_reducible assumption)))<;>with_reducible assumption)|go_keep) (first
   | ((first|go_at_call 97|go_at_call 94|go_at_call 95|go_at_call 96);refine (HC.o _ _ HSD.o).mono ?_;rintro e2 w2 ⟨rfl,o2,hS2,hI2,hs2⟩;have q0:=K0.o.Ar (w:=V.drew) hs2 (NT.o _ (by omega));have q1:=K1.o.Ar (w:=V.drew) hs2 (NT.o _ (by omega));have q5:=K5.o.Ar (w:=V.drew) hs2 (NT.o _ (by omega));have y0:=q5.cell 0;have y1:=q0.cell 0;have y2:=q1.cell 3;have y3:=q1.cell 4;simp at y0 y1 y2 y3;clear q0 q1 q5;have j2:=K2.o.Ar (w:=V.drew) hs2 (NT.o _ (by omega)))
   | (go_at_call 85;refine (HT.o _ j2).mono ?_;rintro e5 w5 ⟨rfl,hb5⟩;have q0:=(K0.o.Ar (w:=V.drew) hs2 (NT.o _ (by omega))).below hb5 (K0.o.Ar (w:=V.drew) hs2 (NT.o _ (by omega))).lt;have q1:=(K1.o.Ar (w:=V.drew) hs2 (NT.o _ (by omega))).below hb5 (K1.o.Ar (w:=V.drew) hs2 (NT.o _ (by omega))).lt;have q5:=(K5.o.Ar (w:=V.drew) hs2 (NT.o _ (by omega))).below hb5 (K5.o.Ar (w:=V.drew) hs2 (NT.o _ (by omega))).lt;have v0:=q5.cell 0;have v1:=q0.cell 0;have v2:=q1.cell 3;have v3:=q1.cell 4;simp at v0 v1 v2 v3;clear q0 q1 q5;have m3:=(K3.o.Ar (w:=V.drew) hs2 (NT.o _ (by omega))).below hb5 (K3.o.Ar (w:=V.drew) hs2 (NT.o _ (by omega))).lt;have m4:=(K4.o.Ar (w:=V.drew) hs2 (NT.o _ (by omega))).below hb5 (K4.o.Ar (w:=V.drew) hs2 (NT.o _ (by omega))).lt;have c3:=m3.cell;have z3:=m3.free;have l3:=m3.lt;have c4:=m4.cell;have z4:=m4.free;have l4:=m4.lt;have hres:=Qa (ji m3 m4 (by omega) ⟨b',n',⟨r0,r1,r2,r3,r4,r5⟩,⟨p0,p1,p2,p3,p4,p5⟩,hl'⟩ ⟨ak,ae,av⟩);clear m3 m4)
   | fail)
  all_goals
   go_wp2_with fail;change bodyPost _ _ _ _ _ (js w5 (w.1.size+1+1+1) (w.1.size+1+1+1+1) ⟨b',n',⟨r0,r1,r2,r3,r4,r5⟩,⟨p0,p1,p2,p3,p4,p5⟩,hl'⟩ ⟨ak,ae,av⟩);have hs5:=(HsD.o.trans hs2).trans (Stp.of_below hb5);have hS5:=hS2.below hb5;have hrs:=Qa (wj hs5 (b6:=(w.1.size+1+1+1)) (b7:=(w.1.size+1+1+1+1)) (by omega) (by omega) ⟨b',n',⟨r0,r1,r2,r3,r4,r5⟩,⟨p0,p1,p2,p3,p4,p5⟩,hl'⟩ ⟨ak,ae,av⟩)
   have fE:=Qa (hS5.bx (yg w5 (w.1.size+1+1+1) (w.1.size+1+1+1+1) (o:=o2) (TG.o _ _ hs2 _ (by omega) K3.o.lt) (TG.o _ _ hs2 _ (by omega) K4.o.lt) ⟨b',n',⟨r0,r1,r2,r3,r4,r5⟩,⟨p0,p1,p2,p3,p4,p5⟩,hl'⟩ ⟨ak,ae,av⟩))
   generalize js w5 (w.1.size+1+1+1) (w.1.size+1+1+1+1) ⟨b',n',⟨r0,r1,r2,r3,r4,r5⟩,⟨p0,p1,p2,p3,p4,p5⟩,hl'⟩ ⟨ak,ae,av⟩=X at *;exact bodyPost_ret (qr _ _ 8 9 rfl rfl rfl hres.o.1 hres.o.2) rfl ⟨rfl,o2,fE.o,hI2,hrs.o⟩
