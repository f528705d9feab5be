import Derived.Test.YteehgedabdchcaaGreatKap
set_option linter.all false
set_option maxRecDepth 1000000
set_option maxHeartbeats 0
open Go renaming World->Aa,Calls->Ab
open Go.RowKit renaming Below->Ae
open Go.Value renaming int->I,tuple->Aj,agg->Ak
open Go.IntKind renaming i64->Z
open Go.Ending renaming returned->O
open Go.Proofs.Tryz
open Go.Obj renaming cells->ARu
namespace Go.Proofs.YteehgedabdchcaaGreat
open Go.RowKit Hp
attribute [local go_sem ↓] Go.wp_at_zero Go.wp_at_succ
def AE.ended (h:AE)(e:Int):AE:=
 if e=141\/e=140 then h.back else if e=100\/e=130 then { h.back with b:=h.b+1 } else { h with n:=h.n+1 }
def ws (v e:Int):A0:=⟨2,e,if e=0 then v else 0⟩
section
variable (b n a0 a1 a2 a3 a4 a5 s0 s1 s2 s3 s4 s5 : Int) (hl : Bool) (v e : Int) (w : Aa)
def Hb (n1:0<=n) (n2:n<=4096):Ab Tryz.prog 214 #[Ak #[I Z b,I Z n,I Z a0,I Z a1,I Z a2,I Z a3,I Z a4,I Z a5,I Z s0,I Z s1,I Z s2,I Z s3,I Z s4,I Z s5,.bool hl],I Z v,I Z 0] w fun e' w'=>e'=O (Aj #[AE.v ⟨b,(n+1),⟨a0,a1,a2,a3,a4,a5⟩,⟨s0,s1,s2,s3,s4,s5⟩,hl⟩,A0.val ⟨2,0,v⟩])/\Ae w.1.size w w':=by
 go_enter func214,ntmps214;go_upto_region 14 with fail;obtain⟨W,hW⟩:=Ja0 (((((w.alloc (ARu #[I Z b,I Z (n+1),I Z a0,I Z a1,I Z a2,I Z a3,I Z a4,I Z a5,I Z s0,I Z s1,I Z s2,I Z s3,I Z s4,I Z s5,.bool hl] 58)).alloc (ARu #[I Z 0,I Z 0,I Z 0,I Z 0,I Z 0,I Z 0,I Z 0,I Z 0,I Z 0,I Z 0,I Z 0,I Z 0,I Z 0,I Z 0,.bool false] 58)).alloc (ARu #[I Z 0,I Z 0,I Z 0] 54)).alloc (ARu #[I Z 2,I Z 0,I Z v] 54)));rw[<-hW];have j3:Al W w.1.size #[I Z b,I Z (n+1),I Z a0,I Z a1,I Z a2,I Z a3,I Z a4,I Z a5,I Z s0,I Z s1,I Z s2,I Z s3,I Z s4,I Z s5,.bool hl] 58:=by rw[hW];exact (((Al.new w _ _).alloc _).alloc _).alloc _
 have j6:Al W (w.1.size+1) #[I Z 0,I Z 0,I Z 0,I Z 0,I Z 0,I Z 0,I Z 0,I Z 0,I Z 0,I Z 0,I Z 0,I Z 0,I Z 0,I Z 0,.bool false] 58:=by rw[hW];exact ((Al.Ap _ _ _ _ _ (by simp) rfl).alloc _).alloc _
 have j7:Al W (w.1.size+1+1) #[I Z 0,I Z 0,I Z 0] 54:=by rw[hW];exact (Al.Ap _ _ _ _ _ (by simp) rfl).alloc _
 have j8:Al W (w.1.size+1+1+1) #[I Z 2,I Z 0,I Z v] 54:=by rw[hW];exact Al.Ap _ _ _ _ _ (by simp) rfl
 have hbW:Ae w.1.size w W:=by rw[hW];exact qc (qc (qc (qc (qd w) _) _) _) _
 clear hW;have c3:=j3.cell;have c6:=j6.cell;have z6:=j6.free;have l6:=j6.lt;have c7:=j7.cell;have z7:=j7.free;have l7:=j7.lt;have c8:=j8.cell;have hres:=Qa (jt (t6:=58) (t7:=54) j6 j7 (by omega) ⟨b,(n+1),⟨a0,a1,a2,a3,a4,a5⟩,⟨s0,s1,s2,s3,s4,s5⟩,hl⟩ ⟨2,0,v⟩)
 have hrb:=Qa (xy hbW (b6:=w.1.size+1) (b7:=w.1.size+1+1) (by omega) (by omega) ⟨b,(n+1),⟨a0,a1,a2,a3,a4,a5⟩,⟨s0,s1,s2,s3,s4,s5⟩,hl⟩ ⟨2,0,v⟩)
 clear j3 j6 j7 j8 hbW;go_region
 all_goals
  go_wp2_with fail;change bodyPost _ _ _ _ _ (jy W (w.1.size+1) (w.1.size+1+1) ⟨b,(n+1),⟨a0,a1,a2,a3,a4,a5⟩,⟨s0,s1,s2,s3,s4,s5⟩,hl⟩ ⟨2,0,v⟩).drew;generalize jy W (w.1.size+1) (w.1.size+1+1) ⟨b,(n+1),⟨a0,a1,a2,a3,a4,a5⟩,⟨s0,s1,s2,s3,s4,s5⟩,hl⟩ ⟨2,0,v⟩=X at *;exact bodyPost_ret (ze _ _ 6 7 rfl rfl rfl (qj hres.out.1) (qj hres.out.2)) rfl ⟨rfl,qf hrb.out⟩
def qoq (n1:0<=n) (n2:n<=4096) (f0:(e==0)=false) (f1:(e==141)=false) (f2:(e==140)=false) (f3:(e==100)=false) (f4:(e==130)=false):Ab Tryz.prog 214 #[Ak #[I Z b,I Z n,I Z a0,I Z a1,I Z a2,I Z a3,I Z a4,I Z a5,I Z s0,I Z s1,I Z s2,I Z s3,I Z s4,I Z s5,.bool hl],I Z v,I Z e] w fun e' w'=>e'=O (Aj #[AE.v ⟨b,(n+1),⟨a0,a1,a2,a3,a4,a5⟩,⟨s0,s1,s2,s3,s4,s5⟩,hl⟩,A0.val ⟨2,e,0⟩])/\Ae w.1.size w w':=by
 go_enter func214,ntmps214;go_upto_region 14 with fail;obtain⟨W,hW⟩:=Ja0 (((((w.alloc (ARu #[I Z b,I Z (n+1),I Z a0,I Z a1,I Z a2,I Z a3,I Z a4,I Z a5,I Z s0,I Z s1,I Z s2,I Z s3,I Z s4,I Z s5,.bool hl] 58)).alloc (ARu #[I Z 0,I Z 0,I Z 0,I Z 0,I Z 0,I Z 0,I Z 0,I Z 0,I Z 0,I Z 0,I Z 0,I Z 0,I Z 0,I Z 0,.bool false] 58)).alloc (ARu #[I Z 0,I Z 0,I Z 0] 54)).alloc (ARu #[I Z 2,I Z e,I Z 0] 54)));rw[<-hW];have j3:Al W w.1.size #[I Z b,I Z (n+1),I Z a0,I Z a1,I Z a2,I Z a3,I Z a4,I Z a5,I Z s0,I Z s1,I Z s2,I Z s3,I Z s4,I Z s5,.bool hl] 58:=by rw[hW];exact (((Al.new w _ _).alloc _).alloc _).alloc _
 have j6:Al W (w.1.size+1) #[I Z 0,I Z 0,I Z 0,I Z 0,I Z 0,I Z 0,I Z 0,I Z 0,I Z 0,I Z 0,I Z 0,I Z 0,I Z 0,I Z 0,.bool false] 58:=by rw[hW];exact ((Al.Ap _ _ _ _ _ (by simp) rfl).alloc _).alloc _
 have j7:Al W (w.1.size+1+1) #[I Z 0,I Z 0,I Z 0] 54:=by rw[hW];exact (Al.Ap _ _ _ _ _ (by simp) rfl).alloc _
 have j8:Al W (w.1.size+1+1+1) #[I Z 2,I Z e,I Z 0] 54:=by rw[hW];exact Al.Ap _ _ _ _ _ (by simp) rfl
 have hbW:Ae w.1.size w W:=by rw[hW];exact qc (qc (qc (qc (qd w) _) _) _) _
 clear hW;have c3:=j3.cell;have c6:=j6.cell;have z6:=j6.free;have l6:=j6.lt;have c7:=j7.cell;have z7:=j7.free;have l7:=j7.lt;have c8:=j8.cell;have hres:=Qa (jt (t6:=58) (t7:=54) j6 j7 (by omega) ⟨b,(n+1),⟨a0,a1,a2,a3,a4,a5⟩,⟨s0,s1,s2,s3,s4,s5⟩,hl⟩ ⟨2,e,0⟩)
 have hrb:=Qa (xy hbW (b6:=w.1.size+1) (b7:=w.1.size+1+1) (by omega) (by omega) ⟨b,(n+1),⟨a0,a1,a2,a3,a4,a5⟩,⟨s0,s1,s2,s3,s4,s5⟩,hl⟩ ⟨2,e,0⟩)
 clear j3 j6 j7 j8 hbW;go_region
 all_goals
  go_wp2_with fail;change bodyPost _ _ _ _ _ (jy W (w.1.size+1) (w.1.size+1+1) ⟨b,(n+1),⟨a0,a1,a2,a3,a4,a5⟩,⟨s0,s1,s2,s3,s4,s5⟩,hl⟩ ⟨2,e,0⟩).drew;generalize jy W (w.1.size+1) (w.1.size+1+1) ⟨b,(n+1),⟨a0,a1,a2,a3,a4,a5⟩,⟨s0,s1,s2,s3,s4,s5⟩,hl⟩ ⟨2,e,0⟩=X at *;exact bodyPost_ret (ze _ _ 6 7 rfl rfl rfl (qj hres.out.1) (qj hres.out.2)) rfl ⟨rfl,qf hrb.out⟩
def qhs (f0:(e==0)=false) (hf:(e==141)=true\/((e==141)=false/\(e==140)=true)):Ab Tryz.prog 214 #[Ak #[I Z b,I Z n,I Z a0,I Z a1,I Z a2,I Z a3,I Z a4,I Z a5,I Z s0,I Z s1,I Z s2,I Z s3,I Z s4,I Z s5,.bool hl],I Z v,I Z e] w fun e' w'=>e'=O (Aj #[AE.v ⟨b,0,⟨s0,s1,s2,s3,s4,s5⟩,⟨s0,s1,s2,s3,s4,s5⟩,false⟩,A0.val ⟨2,e,0⟩])/\Ae w.1.size w w':=by
 rcases hf with g1|⟨g1,g2⟩
 all_goals
  have HB:=Qa (fun w=>show Ab Tryz.prog 212 #[Ak #[I Z b,I Z n,I Z a0,I Z a1,I Z a2,I Z a3,I Z a4,I Z a5,I Z s0,I Z s1,I Z s2,I Z s3,I Z s4,I Z s5,.bool hl]] w fun e w'=>e=O (Ak #[I Z b,I Z 0,I Z s0,I Z s1,I Z s2,I Z s3,I Z s4,I Z s5,I Z s0,I Z s1,I Z s2,I Z s3,I Z s4,I Z s5,.bool false])/\Ae w.1.size w w' from Tv ⟨b,n,⟨a0,a1,a2,a3,a4,a5⟩,⟨s0,s1,s2,s3,s4,s5⟩,hl⟩ w);go_enter func214,ntmps214;obtain⟨W0,hW0⟩:=Ja0 (((((w.alloc (ARu #[I Z b,I Z n,I Z a0,I Z a1,I Z a2,I Z a3,I Z a4,I Z a5,I Z s0,I Z s1,I Z s2,I Z s3,I Z s4,I Z s5,.bool hl] 58)).alloc (ARu #[I Z 0,I Z 0,I Z 0,I Z 0,I Z 0,I Z 0,I Z 0,I Z 0,I Z 0,I Z 0,I Z 0,I Z 0,I Z 0,I Z 0,.bool false] 58)).alloc (ARu #[I Z 0,I Z 0,I Z 0] 54)).alloc (ARu #[I Z 2,I Z e,I Z 0] 54)));have j3:Al W0 w.1.size #[I Z b,I Z n,I Z a0,I Z a1,I Z a2,I Z a3,I Z a4,I Z a5,I Z s0,I Z s1,I Z s2,I Z s3,I Z s4,I Z s5,.bool hl] 58:=by rw[hW0];exact (((Al.new w _ _).alloc _).alloc _).alloc _
  have j6:Al W0 (w.1.size+1) #[I Z 0,I Z 0,I Z 0,I Z 0,I Z 0,I Z 0,I Z 0,I Z 0,I Z 0,I Z 0,I Z 0,I Z 0,I Z 0,I Z 0,.bool false] 58:=by rw[hW0];exact ((Al.Ap _ _ _ _ _ (by simp) rfl).alloc _).alloc _
  have j7:Al W0 (w.1.size+1+1) #[I Z 0,I Z 0,I Z 0] 54:=by rw[hW0];exact (Al.Ap _ _ _ _ _ (by simp) rfl).alloc _
  have j8:Al W0 (w.1.size+1+1+1) #[I Z 2,I Z e,I Z 0] 54:=by rw[hW0];exact Al.Ap _ _ _ _ _ (by simp) rfl
  have hbW:Ae w.1.size w W0:=by rw[hW0];exact qc (qc (qc (qc (qd w) _) _) _) _
  go_wp2_with fail;rw[<-hW0];clear hW0;refine (HB.out _).mono ?_;rintro e1 W1 ⟨rfl,hb1⟩;replace j3:=j3.below hb1 j3.lt;replace j6:=j6.below hb1 j6.lt;replace j7:=j7.below hb1 j7.lt;replace j8:=j8.below hb1 j8.lt;replace hbW:=qe hbW hb1;clear hb1 HB;have c3:=j3.cell;have z3:=j3.free;have l3:=j3.lt;go_upto_region 14 with fail;clear c3 z3 l3;obtain⟨W,hW⟩:=Ja0 (CS W1 w.1.size ⟨b,0,⟨s0,s1,s2,s3,s4,s5⟩,⟨s0,s1,s2,s3,s4,s5⟩,false⟩);change Code.wp _ _ _ _ (CS W1 w.1.size ⟨b,0,⟨s0,s1,s2,s3,s4,s5⟩,⟨s0,s1,s2,s3,s4,s5⟩,false⟩);rw[<-hW];have k3:Al W w.1.size #[I Z b,I Z 0,I Z s0,I Z s1,I Z s2,I Z s3,I Z s4,I Z s5,I Z s0,I Z s1,I Z s2,I Z s3,I Z s4,I Z s5,.bool false] 58:=by rw[hW];exact (d8 (g:=⟨b,n,⟨a0,a1,a2,a3,a4,a5⟩,⟨s0,s1,s2,s3,s4,s5⟩,hl⟩) j3 ⟨b,0,⟨s0,s1,s2,s3,s4,s5⟩,⟨s0,s1,s2,s3,s4,s5⟩,false⟩)
  have k6:Al W (w.1.size+1) #[I Z 0,I Z 0,I Z 0,I Z 0,I Z 0,I Z 0,I Z 0,I Z 0,I Z 0,I Z 0,I Z 0,I Z 0,I Z 0,I Z 0,.bool false] 58:=by rw[hW];exact (yz j6 (by omega) _)
  have k7:Al W (w.1.size+1+1) #[I Z 0,I Z 0,I Z 0] 54:=by rw[hW];exact (yz j7 (by omega) _)
  have k8:Al W (w.1.size+1+1+1) #[I Z 2,I Z e,I Z 0] 54:=by rw[hW];exact (yz j8 (by omega) _)
  have kb:Ae w.1.size w W:=by rw[hW];exact Ux hbW (Qk _) _
  clear hW j3 j6 j7 j8 hbW;have j3:=k3;have j6:=k6;have j7:=k7;have j8:=k8;have hbW:=kb;clear k3 k6 k7 k8 kb;have c3:=j3.cell;have c6:=j6.cell;have z6:=j6.free;have l6:=j6.lt;have c7:=j7.cell;have z7:=j7.free;have l7:=j7.lt;have c8:=j8.cell;have hres:=Qa (jt (t6:=58) (t7:=54) j6 j7 (by omega) ⟨b,0,⟨s0,s1,s2,s3,s4,s5⟩,⟨s0,s1,s2,s3,s4,s5⟩,false⟩ ⟨2,e,0⟩)
  have hrb:=Qa (xy hbW (b6:=w.1.size+1) (b7:=w.1.size+1+1) (by omega) (by omega) ⟨b,0,⟨s0,s1,s2,s3,s4,s5⟩,⟨s0,s1,s2,s3,s4,s5⟩,false⟩ ⟨2,e,0⟩)
  clear j3 j6 j7 j8 hbW;go_region
  all_goals
   go_wp2_with fail;change bodyPost _ _ _ _ _ (jy W (w.1.size+1) (w.1.size+1+1) ⟨b,0,⟨s0,s1,s2,s3,s4,s5⟩,⟨s0,s1,s2,s3,s4,s5⟩,false⟩ ⟨2,e,0⟩).drew;generalize jy W (w.1.size+1) (w.1.size+1+1) ⟨b,0,⟨s0,s1,s2,s3,s4,s5⟩,⟨s0,s1,s2,s3,s4,s5⟩,false⟩ ⟨2,e,0⟩=X at *;exact bodyPost_ret (ze _ _ 6 7 rfl rfl rfl (qj hres.out.1) (qj hres.out.2)) rfl ⟨rfl,qf hrb.out⟩
def qiw (b1:0<=b) (b2:b<=4096) (f0:(e==0)=false) (f1:(e==141)=false) (f2:(e==140)=false) (hf:(e==100)=true\/((e==100)=false/\(e==130)=true)):Ab Tryz.prog 214 #[Ak #[I Z b,I Z n,I Z a0,I Z a1,I Z a2,I Z a3,I Z a4,I Z a5,I Z s0,I Z s1,I Z s2,I Z s3,I Z s4,I Z s5,.bool hl],I Z v,I Z e] w fun e' w'=>e'=O (Aj #[AE.v ⟨(b+1),0,⟨s0,s1,s2,s3,s4,s5⟩,⟨s0,s1,s2,s3,s4,s5⟩,false⟩,A0.val ⟨2,e,0⟩])/\Ae w.1.size w w':=by
 rcases hf with g1|⟨g1,g2⟩
 all_goals
  have HB:=Qa (fun w=>show Ab Tryz.prog 212 #[Ak #[I Z b,I Z n,I Z a0,I Z a1,I Z a2,I Z a3,I Z a4,I Z a5,I Z s0,I Z s1,I Z s2,I Z s3,I Z s4,I Z s5,.bool hl]] w fun e w'=>e=O (Ak #[I Z b,I Z 0,I Z s0,I Z s1,I Z s2,I Z s3,I Z s4,I Z s5,I Z s0,I Z s1,I Z s2,I Z s3,I Z s4,I Z s5,.bool false])/\Ae w.1.size w w' from Tv ⟨b,n,⟨a0,a1,a2,a3,a4,a5⟩,⟨s0,s1,s2,s3,s4,s5⟩,hl⟩ w);go_enter func214,ntmps214;obtain⟨W0,hW0⟩:=Ja0 (((((w.alloc (ARu #[I Z b,I Z n,I Z a0,I Z a1,I Z a2,I Z a3,I Z a4,I Z a5,I Z s0,I Z s1,I Z s2,I Z s3,I Z s4,I Z s5,.bool hl] 58)).alloc (ARu #[I Z 0,I Z 0,I Z 0,I Z 0,I Z 0,I Z 0,I Z 0,I Z 0,I Z 0,I Z 0,I Z 0,I Z 0,I Z 0,I Z 0,.bool false] 58)).alloc (ARu #[I Z 0,I Z 0,I Z 0] 54)).alloc (ARu #[I Z 2,I Z e,I Z 0] 54)));have j3:Al W0 w.1.size #[I Z b,I Z n,I Z a0,I Z a1,I Z a2,I Z a3,I Z a4,I Z a5,I Z s0,I Z s1,I Z s2,I Z s3,I Z s4,I Z s5,.bool hl] 58:=by rw[hW0];exact (((Al.new w _ _).alloc _).alloc _).alloc _
  have j6:Al W0 (w.1.size+1) #[I Z 0,I Z 0,I Z 0,I Z 0,I Z 0,I Z 0,I Z 0,I Z 0,I Z 0,I Z 0,I Z 0,I Z 0,I Z 0,I Z 0,.bool false] 58:=by rw[hW0];exact ((Al.Ap _ _ _ _ _ (by simp) rfl).alloc _).alloc _
  have j7:Al W0 (w.1.size+1+1) #[I Z 0,I Z 0,I Z 0] 54:=by rw[hW0];exact (Al.Ap _ _ _ _ _ (by simp) rfl).alloc _
  have j8:Al W0 (w.1.size+1+1+1) #[I Z 2,I Z e,I Z 0] 54:=by rw[hW0];exact Al.Ap _ _ _ _ _ (by simp) rfl
  have hbW:Ae w.1.size w W0:=by rw[hW0];exact qc (qc (qc (qc (qd w) _) _) _) _
  go_wp2_with fail;rw[<-hW0];clear hW0;refine (HB.out _).mono ?_;rintro e1 W1 ⟨rfl,hb1⟩;replace j3:=j3.below hb1 j3.lt;replace j6:=j6.below hb1 j6.lt;replace j7:=j7.below hb1 j7.lt;replace j8:=j8.below hb1 j8.lt;replace hbW:=qe hbW hb1;clear hb1 HB;have c3:=j3.cell;have z3:=j3.free;have l3:=j3.lt;go_upto_region 14 with fail;clear c3 z3 l3;obtain⟨W,hW⟩:=Ja0 ((CS W1 w.1.size ⟨b,0,⟨s0,s1,s2,s3,s4,s5⟩,⟨s0,s1,s2,s3,s4,s5⟩,false⟩).setCell ⟨w.1.size,0,none⟩ (I Z (b+1)));change Code.wp _ _ _ _ ((CS W1 w.1.size ⟨b,0,⟨s0,s1,s2,s3,s4,s5⟩,⟨s0,s1,s2,s3,s4,s5⟩,false⟩).setCell ⟨w.1.size,0,none⟩ (I Z (b+1)));rw[<-hW];have k3:Al W w.1.size #[I Z (b+1),I Z 0,I Z s0,I Z s1,I Z s2,I Z s3,I Z s4,I Z s5,I Z s0,I Z s1,I Z s2,I Z s3,I Z s4,I Z s5,.bool false] 58:=by rw[hW];exact (d8 (g:=⟨b,n,⟨a0,a1,a2,a3,a4,a5⟩,⟨s0,s1,s2,s3,s4,s5⟩,hl⟩) j3 ⟨b,0,⟨s0,s1,s2,s3,s4,s5⟩,⟨s0,s1,s2,s3,s4,s5⟩,false⟩).set 0 (I Z (b+1))
  have k6:Al W (w.1.size+1) #[I Z 0,I Z 0,I Z 0,I Z 0,I Z 0,I Z 0,I Z 0,I Z 0,I Z 0,I Z 0,I Z 0,I Z 0,I Z 0,I Z 0,.bool false] 58:=by rw[hW];exact (yz j6 (by omega) _).Am (a:=⟨w.1.size,0,none⟩) (by show _≠w.1.size;omega) (I Z (b+1))
  have k7:Al W (w.1.size+1+1) #[I Z 0,I Z 0,I Z 0] 54:=by rw[hW];exact (yz j7 (by omega) _).Am (a:=⟨w.1.size,0,none⟩) (by show _≠w.1.size;omega) (I Z (b+1))
  have k8:Al W (w.1.size+1+1+1) #[I Z 2,I Z e,I Z 0] 54:=by rw[hW];exact (yz j8 (by omega) _).Am (a:=⟨w.1.size,0,none⟩) (by show _≠w.1.size;omega) (I Z (b+1))
  have kb:Ae w.1.size w W:=by rw[hW];exact zc (Ux hbW (Qk _) _) (Qk _) _
  clear hW j3 j6 j7 j8 hbW;have j3:=k3;have j6:=k6;have j7:=k7;have j8:=k8;have hbW:=kb;clear k3 k6 k7 k8 kb;have c3:=j3.cell;have c6:=j6.cell;have z6:=j6.free;have l6:=j6.lt;have c7:=j7.cell;have z7:=j7.free;have l7:=j7.lt;have c8:=j8.cell;have hres:=Qa (jt (t6:=58) (t7:=54) j6 j7 (by omega) ⟨(b+1),0,⟨s0,s1,s2,s3,s4,s5⟩,⟨s0,s1,s2,s3,s4,s5⟩,false⟩ ⟨2,e,0⟩)
  have hrb:=Qa (xy hbW (b6:=w.1.size+1) (b7:=w.1.size+1+1) (by omega) (by omega) ⟨(b+1),0,⟨s0,s1,s2,s3,s4,s5⟩,⟨s0,s1,s2,s3,s4,s5⟩,false⟩ ⟨2,e,0⟩)
  clear j3 j6 j7 j8 hbW;go_region
  all_goals
   go_wp2_with fail;change bodyPost _ _ _ _ _ (jy W (w.1.size+1) (w.1.size+1+1) ⟨(b+1),0,⟨s0,s1,s2,s3,s4,s5⟩,⟨s0,s1,s2,s3,s4,s5⟩,false⟩ ⟨2,e,0⟩).drew;generalize jy W (w.1.size+1) (w.1.size+1+1) ⟨(b+1),0,⟨s0,s1,s2,s3,s4,s5⟩,⟨s0,s1,s2,s3,s4,s5⟩,false⟩ ⟨2,e,0⟩=X at *;exact bodyPost_ret (ze _ _ 6 7 rfl rfl rfl (qj hres.out.1) (qj hres.out.2)) rfl ⟨rfl,qf hrb.out⟩
