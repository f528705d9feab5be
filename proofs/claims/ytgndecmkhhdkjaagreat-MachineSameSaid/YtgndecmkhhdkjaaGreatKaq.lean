import Derived.Test.YtgndecmkhhdkjaaGreatKam
set_option linter.all false
set_option maxRecDepth 1000000
set_option maxHeartbeats 0
open Go renaming World->Aa,Calls->Ab
open Go.RowKit renaming Below->Ae
open Go.Value renaming int->I,tuple->Ak,agg->Al
open Go.IntKind renaming i64->Z
open Go.Ending renaming returned->O
open Go.Proofs.Tryz
open Go.Proofs.Tryz renaming prog->ANa
open Go.Obj renaming cells->ANb
namespace Go.Proofs.YtgndecmkhhdkjaaGreat
open Go.RowKit Hp
attribute [local go_sem ↓] Go.wp_at_zero Go.wp_at_succ
def AE.ended (h:AE)(e:Int):AE:=
 if e=141\/e=140 then h.back else if e=100\/e=130 then { h.back with b:=h.b+1 } else { h with n:=h.n+1 }
def ky (v e:Int):BD:=⟨2,e,if e=0 then v else 0⟩
section
variable (b n a0 a1 a2 a3 a4 a5 s0 s1 s2 s3 s4 s5 : Int) (hl : Bool) (v e : Int) (w : Aa)
def H7 (n1:0<=n) (n2:n<=4096):Ab ANa 86 #[Al #[b,n,a0,a1,a2,a3,a4,a5,s0,s1,s2,s3,s4,s5,hl],v,()] w fun e' w'=>e'=O (Ak #[AE.v ⟨b,(n+1),⟨a0,a1,a2,a3,a4,a5⟩,⟨s0,s1,s2,s3,s4,s5⟩,hl⟩,BD.val ⟨2,0,v⟩])/\Ae w w w':=by
 go_in;go_upto_region 14 with fail;obtain⟨W,hW⟩:=Ja0 (((((w.alloc (ANb #[b,I Z (n+1),a0,a1,a2,a3,a4,a5,s0,s1,s2,s3,s4,s5,hl] 49)).alloc (ANb #[(),(),(),(),(),(),(),(),(),(),(),(),(),(),false] 49)).alloc (ANb #[(),(),()] 33)).alloc (ANb #[I Z 2,(),v] 33)));rw[<-hW];have j3:An W w #[b,I Z (n+1),a0,a1,a2,a3,a4,a5,s0,s1,s2,s3,s4,s5,hl] 49:=by rw[hW];exact (((An.new w _ _).alloc _).alloc _).alloc _
 have j6:An W (w.1.size+1) #[(),(),(),(),(),(),(),(),(),(),(),(),(),(),false] 49:=by rw[hW];exact ((An.Ax _ _ _ _ _ (by simp) rfl).alloc _).alloc _
 have j7:An W (w.1.size+1+1) #[(),(),()] 33:=by rw[hW];exact (An.Ax _ _ _ _ _ (by simp) rfl).alloc _
 have j8:An W (w.1.size+1+1+1) #[I Z 2,(),v] 33:=by rw[hW];exact An.Ax _ _ _ _ _ (by simp) rfl
 have hbW:Ae w w W:=by rw[hW];exact qc (qc (qc (qc (qd w) _) _) _) _
 clear hW;have c3:=j3.cell;have c6:=j6.cell;have z6:=j6.free;have l6:=j6.lt;have c7:=j7.cell;have z7:=j7.free;have l7:=j7.lt;have c8:=j8.cell;have hres:=Qa (ji (t6:=49) (t7:=33) j6 j7 (by omega) ⟨b,(n+1),⟨a0,a1,a2,a3,a4,a5⟩,⟨s0,s1,s2,s3,s4,s5⟩,hl⟩ ⟨2,0,v⟩)
 have hrb:=Qa (yi hbW (b6:=w.1.size+1) (b7:=w.1.size+1+1) (by omega) (by omega) ⟨b,(n+1),⟨a0,a1,a2,a3,a4,a5⟩,⟨s0,s1,s2,s3,s4,s5⟩,hl⟩ ⟨2,0,v⟩)
 clear j3 j6 j7 j8 hbW;go_region
 all_goals
  go_wp2_with fail;change bodyPost _ _ _ _ _ (js W (w.1.size+1) (w.1.size+1+1) ⟨b,(n+1),⟨a0,a1,a2,a3,a4,a5⟩,⟨s0,s1,s2,s3,s4,s5⟩,hl⟩ ⟨2,0,v⟩).drew;generalize js W (w.1.size+1) (w.1.size+1+1) ⟨b,(n+1),⟨a0,a1,a2,a3,a4,a5⟩,⟨s0,s1,s2,s3,s4,s5⟩,hl⟩ ⟨2,0,v⟩=X at *;exact bodyPost_ret (qr _ _ 6 7 rfl rfl rfl (qj hres.o.1) (qj hres.o.2)) rfl ⟨rfl,qf hrb.o⟩
def qo9 (n1:0<=n) (n2:n<=4096) (f0:(e==0)=false) (f1:(e==141)=false) (f2:(e==140)=false) (f3:(e==100)=false) (f4:(e==130)=false):Ab ANa 86 #[Al #[b,n,a0,a1,a2,a3,a4,a5,s0,s1,s2,s3,s4,s5,hl],v,e] w fun e' w'=>e'=O (Ak #[AE.v ⟨b,(n+1),⟨a0,a1,a2,a3,a4,a5⟩,⟨s0,s1,s2,s3,s4,s5⟩,hl⟩,BD.val ⟨2,e,0⟩])/\Ae w w w':=by
 go_in;go_upto_region 14 with fail;obtain⟨W,hW⟩:=Ja0 (((((w.alloc (ANb #[b,I Z (n+1),a0,a1,a2,a3,a4,a5,s0,s1,s2,s3,s4,s5,hl] 49)).alloc (ANb #[(),(),(),(),(),(),(),(),(),(),(),(),(),(),false] 49)).alloc (ANb #[(),(),()] 33)).alloc (ANb #[I Z 2,e,()] 33)));rw[<-hW];have j3:An W w #[b,I Z (n+1),a0,a1,a2,a3,a4,a5,s0,s1,s2,s3,s4,s5,hl] 49:=by rw[hW];exact (((An.new w _ _).alloc _).alloc _).alloc _
 have j6:An W (w.1.size+1) #[(),(),(),(),(),(),(),(),(),(),(),(),(),(),false] 49:=by rw[hW];exact ((An.Ax _ _ _ _ _ (by simp) rfl).alloc _).alloc _
 have j7:An W (w.1.size+1+1) #[(),(),()] 33:=by rw[hW];exact (An.Ax _ _ _ _ _ (by simp) rfl).alloc _
 have j8:An W (w.1.size+1+1+1) #[I Z 2,e,()] 33:=by rw[hW];exact An.Ax _ _ _ _ _ (by simp) rfl
 have hbW:Ae w w W:=by rw[hW];exact qc (qc (qc (qc (qd w) _) _) _) _
 clear hW;have c3:=j3.cell;have c6:=j6.cell;have z6:=j6.free;have l6:=j6.lt;have c7:=j7.cell;have z7:=j7.free;have l7:=j7.lt;have c8:=j8.cell;have hres:=Qa (ji (t6:=49) (t7:=33) j6 j7 (by omega) ⟨b,(n+1),⟨a0,a1,a2,a3,a4,a5⟩,⟨s0,s1,s2,s3,s4,s5⟩,hl⟩ ⟨2,e,0⟩)
 have hrb:=Qa (yi hbW (b6:=w.1.size+1) (b7:=w.1.size+1+1) (by omega) (by omega) ⟨b,(n+1),⟨a0,a1,a2,a3,a4,a5⟩,⟨s0,s1,s2,s3,s4,s5⟩,hl⟩ ⟨2,e,0⟩)
 clear j3 j6 j7 j8 hbW;go_region
 all_goals
  go_wp2_with fail;change bodyPost _ _ _ _ _ (js W (w.1.size+1) (w.1.size+1+1) ⟨b,(n+1),⟨a0,a1,a2,a3,a4,a5⟩,⟨s0,s1,s2,s3,s4,s5⟩,hl⟩ ⟨2,e,0⟩).drew;generalize js W (w.1.size+1) (w.1.size+1+1) ⟨b,(n+1),⟨a0,a1,a2,a3,a4,a5⟩,⟨s0,s1,s2,s3,s4,s5⟩,hl⟩ ⟨2,e,0⟩=X at *;exact bodyPost_ret (qr _ _ 6 7 rfl rfl rfl (qj hres.o.1) (qj hres.o.2)) rfl ⟨rfl,qf hrb.o⟩
def XX (f0:(e==0)=false) (hf:(e==141)=true\/((e==141)=false/\(e==140)=true)):Ab ANa 86 #[Al #[b,n,a0,a1,a2,a3,a4,a5,s0,s1,s2,s3,s4,s5,hl],v,e] w fun e' w'=>e'=O (Ak #[AE.v ⟨b,0,⟨s0,s1,s2,s3,s4,s5⟩,⟨s0,s1,s2,s3,s4,s5⟩,false⟩,BD.val ⟨2,e,0⟩])/\Ae w w w':=by
 rcases hf with g1|⟨g1,g2⟩
 all_goals
  have HB:=Qa (fun w=>show Ab ANa 84 #[Al #[b,n,a0,a1,a2,a3,a4,a5,s0,s1,s2,s3,s4,s5,hl]] w fun e w'=>e=O (Al #[b,(),s0,s1,s2,s3,s4,s5,s0,s1,s2,s3,s4,s5,false])/\Ae w w w' from SD ⟨b,n,⟨a0,a1,a2,a3,a4,a5⟩,⟨s0,s1,s2,s3,s4,s5⟩,hl⟩ w);go_in;obtain⟨W0,hW0⟩:=Ja0 (((((w.alloc (ANb #[b,n,a0,a1,a2,a3,a4,a5,s0,s1,s2,s3,s4,s5,hl] 49)).alloc (ANb #[(),(),(),(),(),(),(),(),(),(),(),(),(),(),false] 49)).alloc (ANb #[(),(),()] 33)).alloc (ANb #[I Z 2,e,()] 33)));have j3:An W0 w #[b,n,a0,a1,a2,a3,a4,a5,s0,s1,s2,s3,s4,s5,hl] 49:=by rw[hW0];exact (((An.new w _ _).alloc _).alloc _).alloc _
  have j6:An W0 (w.1.size+1) #[(),(),(),(),(),(),(),(),(),(),(),(),(),(),false] 49:=by rw[hW0];exact ((An.Ax _ _ _ _ _ (by simp) rfl).alloc _).alloc _
  have j7:An W0 (w.1.size+1+1) #[(),(),()] 33:=by rw[hW0];exact (An.Ax _ _ _ _ _ (by simp) rfl).alloc _
  have j8:An W0 (w.1.size+1+1+1) #[I Z 2,e,()] 33:=by rw[hW0];exact An.Ax _ _ _ _ _ (by simp) rfl
  have hbW:Ae w w W0:=by rw[hW0];exact qc (qc (qc (qc (qd w) _) _) _) _
  go_wp2_with fail;rw[<-hW0];clear hW0;refine (HB.o _).mono ?_;rintro e1 W1 ⟨rfl,hb1⟩;replace j3:=j3.below hb1 j3.lt;replace j6:=j6.below hb1 j6.lt;replace j7:=j7.below hb1 j7.lt;replace j8:=j8.below hb1 j8.lt;replace hbW:=qe hbW hb1;clear hb1 HB;have c3:=j3.cell;have z3:=j3.free;have l3:=j3.lt;go_upto_region 14 with fail;clear c3 z3 l3;obtain⟨W,hW⟩:=Ja0 (Ds W1 w ⟨b,0,⟨s0,s1,s2,s3,s4,s5⟩,⟨s0,s1,s2,s3,s4,s5⟩,false⟩);change Code.wp _ _ _ _ (Ds W1 w ⟨b,0,⟨s0,s1,s2,s3,s4,s5⟩,⟨s0,s1,s2,s3,s4,s5⟩,false⟩);rw[<-hW];have k3:An W w #[b,(),s0,s1,s2,s3,s4,s5,s0,s1,s2,s3,s4,s5,false] 49:=by rw[hW];exact (dc (g:=⟨b,n,⟨a0,a1,a2,a3,a4,a5⟩,⟨s0,s1,s2,s3,s4,s5⟩,hl⟩) j3 ⟨b,0,⟨s0,s1,s2,s3,s4,s5⟩,⟨s0,s1,s2,s3,s4,s5⟩,false⟩)
  have k6:An W (w.1.size+1) #[(),(),(),(),(),(),(),(),(),(),(),(),(),(),false] 49:=by rw[hW];exact (ud j6 (by omega) _)
  have k7:An W (w.1.size+1+1) #[(),(),()] 33:=by rw[hW];exact (ud j7 (by omega) _)
  have k8:An W (w.1.size+1+1+1) #[I Z 2,e,()] 33:=by rw[hW];exact (ud j8 (by omega) _)
  have kb:Ae w w W:=by rw[hW];exact nc hbW (Qk _) _
  clear hW j3 j6 j7 j8 hbW;have j3:=k3;have j6:=k6;have j7:=k7;have j8:=k8;have hbW:=kb;clear k3 k6 k7 k8 kb;have c3:=j3.cell;have c6:=j6.cell;have z6:=j6.free;have l6:=j6.lt;have c7:=j7.cell;have z7:=j7.free;have l7:=j7.lt;have c8:=j8.cell;have hres:=Qa (ji (t6:=49) (t7:=33) j6 j7 (by omega) ⟨b,0,⟨s0,s1,s2,s3,s4,s5⟩,⟨s0,s1,s2,s3,s4,s5⟩,false⟩ ⟨2,e,0⟩)
  have hrb:=Qa (yi hbW (b6:=w.1.size+1) (b7:=w.1.size+1+1) (by omega) (by omega) ⟨b,0,⟨s0,s1,s2,s3,s4,s5⟩,⟨s0,s1,s2,s3,s4,s5⟩,false⟩ ⟨2,e,0⟩)
  clear j3 j6 j7 j8 hbW;go_region
  all_goals
   go_wp2_with fail;change bodyPost _ _ _ _ _ (js W (w.1.size+1) (w.1.size+1+1) ⟨b,0,⟨s0,s1,s2,s3,s4,s5⟩,⟨s0,s1,s2,s3,s4,s5⟩,false⟩ ⟨2,e,0⟩).drew;generalize js W (w.1.size+1) (w.1.size+1+1) ⟨b,0,⟨s0,s1,s2,s3,s4,s5⟩,⟨s0,s1,s2,s3,s4,s5⟩,false⟩ ⟨2,e,0⟩=X at *;exact bodyPost_ret (qr _ _ 6 7 rfl rfl rfl (qj hres.o.1) (qj hres.o.2)) rfl ⟨rfl,qf hrb.o⟩
def X4 (b1:0<=b) (b2:b<=4096) (f0:(e==0)=false) (f1:(e==141)=false) (f2:(e==140)=false) (hf:(e==100)=true\/((e==100)=false/\(e==130)=true)):Ab ANa 86 #[Al #[b,n,a0,a1,a2,a3,a4,a5,s0,s1,s2,s3,s4,s5,hl],v,e] w fun e' w'=>e'=O (Ak #[AE.v ⟨(b+1),0,⟨s0,s1,s2,s3,s4,s5⟩,⟨s0,s1,s2,s3,s4,s5⟩,false⟩,BD.val ⟨2,e,0⟩])/\Ae w w w':=by
 rcases hf with g1|⟨g1,g2⟩
 all_goals
  have HB:=Qa (fun w=>show Ab ANa 84 #[Al #[b,n,a0,a1,a2,a3,a4,a5,s0,s1,s2,s3,s4,s5,hl]] w fun e w'=>e=O (Al #[b,(),s0,s1,s2,s3,s4,s5,s0,s1,s2,s3,s4,s5,false])/\Ae w w w' from SD ⟨b,n,⟨a0,a1,a2,a3,a4,a5⟩,⟨s0,s1,s2,s3,s4,s5⟩,hl⟩ w);go_in;obtain⟨W0,hW0⟩:=Ja0 (((((w.alloc (ANb #[b,n,a0,a1,a2,a3,a4,a5,s0,s1,s2,s3,s4,s5,hl] 49)).alloc (ANb #[(),(),(),(),(),(),(),(),(),(),(),(),(),(),false] 49)).alloc (ANb #[(),(),()] 33)).alloc (ANb #[I Z 2,e,()] 33)));have j3:An W0 w #[b,n,a0,a1,a2,a3,a4,a5,s0,s1,s2,s3,s4,s5,hl] 49:=by rw[hW0];exact (((An.new w _ _).alloc _).alloc _).alloc _
  have j6:An W0 (w.1.size+1) #[(),(),(),(),(),(),(),(),(),(),(),(),(),(),false] 49:=by rw[hW0];exact ((An.Ax _ _ _ _ _ (by simp) rfl).alloc _).alloc _
  have j7:An W0 (w.1.size+1+1) #[(),(),()] 33:=by rw[hW0];exact (An.Ax _ _ _ _ _ (by simp) rfl).alloc _
  have j8:An W0 (w.1.size+1+1+1) #[I Z 2,e,()] 33:=by rw[hW0];exact An.Ax _ _ _ _ _ (by simp) rfl
  have hbW:Ae w w W0:=by rw[hW0];exact qc (qc (qc (qc (qd w) _) _) _) _
  go_wp2_with fail;rw[<-hW0];clear hW0;refine (HB.o _).mono ?_;rintro e1 W1 ⟨rfl,hb1⟩;replace j3:=j3.below hb1 j3.lt;replace j6:=j6.below hb1 j6.lt;replace j7:=j7.below hb1 j7.lt;replace j8:=j8.below hb1 j8.lt;replace hbW:=qe hbW hb1;clear hb1 HB;have c3:=j3.cell;have z3:=j3.free;have l3:=j3.lt;go_upto_region 14 with fail;clear c3 z3 l3;obtain⟨W,hW⟩:=Ja0 ((Ds W1 w ⟨b,0,⟨s0,s1,s2,s3,s4,s5⟩,⟨s0,s1,s2,s3,s4,s5⟩,false⟩).setCell ⟨w,0,none⟩ (I Z (b+1)));change Code.wp _ _ _ _ ((Ds W1 w ⟨b,0,⟨s0,s1,s2,s3,s4,s5⟩,⟨s0,s1,s2,s3,s4,s5⟩,false⟩).setCell ⟨w,0,none⟩ (I Z (b+1)));rw[<-hW];have k3:An W w #[I Z (b+1),(),s0,s1,s2,s3,s4,s5,s0,s1,s2,s3,s4,s5,false] 49:=by rw[hW];exact (dc (g:=⟨b,n,⟨a0,a1,a2,a3,a4,a5⟩,⟨s0,s1,s2,s3,s4,s5⟩,hl⟩) j3 ⟨b,0,⟨s0,s1,s2,s3,s4,s5⟩,⟨s0,s1,s2,s3,s4,s5⟩,false⟩).set 0 (I Z (b+1))
  have k6:An W (w.1.size+1) #[(),(),(),(),(),(),(),(),(),(),(),(),(),(),false] 49:=by rw[hW];exact (ud j6 (by omega) _).Ao (a:=⟨w,0,none⟩) (by show _≠w.1.size;omega) (I Z (b+1))
  have k7:An W (w.1.size+1+1) #[(),(),()] 33:=by rw[hW];exact (ud j7 (by omega) _).Ao (a:=⟨w,0,none⟩) (by show _≠w.1.size;omega) (I Z (b+1))
  have k8:An W (w.1.size+1+1+1) #[I Z 2,e,()] 33:=by rw[hW];exact (ud j8 (by omega) _).Ao (a:=⟨w,0,none⟩) (by show _≠w.1.size;omega) (I Z (b+1))
  have kb:Ae w w W:=by rw[hW];exact qo (nc hbW (Qk _) _) (Qk _) _
  clear hW j3 j6 j7 j8 hbW;have j3:=k3;have j6:=k6;have j7:=k7;have j8:=k8;have hbW:=kb;clear k3 k6 k7 k8 kb;have c3:=j3.cell;have c6:=j6.cell;have z6:=j6.free;have l6:=j6.lt;have c7:=j7.cell;have z7:=j7.free;have l7:=j7.lt;have c8:=j8.cell;have hres:=Qa (ji (t6:=49) (t7:=33) j6 j7 (by omega) ⟨(b+1),0,⟨s0,s1,s2,s3,s4,s5⟩,⟨s0,s1,s2,s3,s4,s5⟩,false⟩ ⟨2,e,0⟩)
  have hrb:=Qa (yi hbW (b6:=w.1.size+1) (b7:=w.1.size+1+1) (by omega) (by omega) ⟨(b+1),0,⟨s0,s1,s2,s3,s4,s5⟩,⟨s0,s1,s2,s3,s4,s5⟩,false⟩ ⟨2,e,0⟩)
  clear j3 j6 j7 j8 hbW;go_region
  all_goals
   go_wp2_with fail;change bodyPost _ _ _ _ _ (js W (w.1.size+1) (w.1.size+1+1) ⟨(b+1),0,⟨s0,s1,s2,s3,s4,s5⟩,⟨s0,s1,s2,s3,s4,s5⟩,false⟩ ⟨2,e,0⟩).drew;generalize js W (w.1.size+1) (w.1.size+1+1) ⟨(b+1),0,⟨s0,s1,s2,s3,s4,s5⟩,⟨s0,s1,s2,s3,s4,s5⟩,false⟩ ⟨2,e,0⟩=X at *;exact bodyPost_ret (qr _ _ 6 7 rfl rfl rfl (qj hres.o.1) (qj hres.o.2)) rfl ⟨rfl,qf hrb.o⟩
end
def LQ (h:AE)(v e:Int)(hn:0<=h.n/\h.n<=4096)(hb:0<=h.b/\h.b<=4096)(w:Aa) :
  Ab ANa 86 #[h.v,v,e] w fun e' w'=>e'=O (Ak #[(h.ended e).v,(ky v e).val])/\Ae w w w':=by
 obtain⟨b,n,⟨a0,a1,a2,a3,a4,a5⟩,⟨s0,s1,s2,s3,s4,s5⟩,hl⟩:=h;obtain⟨n1,n2⟩:=hn;obtain⟨b1,b2⟩:=hb;simp only at n1 n2 b1 b2;by_cases e0:e=0
 ·subst e0
  have er:AE.ended ⟨b,n,⟨a0,a1,a2,a3,a4,a5⟩,⟨s0,s1,s2,s3,s4,s5⟩,hl⟩ 0=⟨b,n+1,⟨a0,a1,a2,a3,a4,a5⟩,⟨s0,s1,s2,s3,s4,s5⟩,hl⟩:=by unfold AE.ended;rfl
  have ea:ky v 0=⟨2,0,v⟩:=rfl;rw[er,ea];exact H7 b n a0 a1 a2 a3 a4 a5 s0 s1 s2 s3 s4 s5 hl v w n1 n2
 have ea:ky v e=⟨2,e,0⟩:=by unfold ky;rw[if_neg e0]
 have f0:(e==0)=false:=by rw[Qh];exact e0
 rw[ea];by_cases e1:e=141
 ·have er:AE.ended ⟨b,n,⟨a0,a1,a2,a3,a4,a5⟩,⟨s0,s1,s2,s3,s4,s5⟩,hl⟩ e=⟨b,0,⟨s0,s1,s2,s3,s4,s5⟩,⟨s0,s1,s2,s3,s4,s5⟩,false⟩:=by unfold AE.ended;rw[if_pos (.inl e1)];rfl
  rw[er];exact XX b n a0 a1 a2 a3 a4 a5 s0 s1 s2 s3 s4 s5 hl v e w f0 (.inl (by rw[beq_iff_eq];exact e1))
 have f1:(e==141)=false:=by rw[Qh];exact e1
 by_cases e2:e=140
 ·have er:AE.ended ⟨b,n,⟨a0,a1,a2,a3,a4,a5⟩,⟨s0,s1,s2,s3,s4,s5⟩,hl⟩ e=⟨b,0,⟨s0,s1,s2,s3,s4,s5⟩,⟨s0,s1,s2,s3,s4,s5⟩,false⟩:=by unfold AE.ended;rw[if_pos (.inr e2)];rfl
  rw[er];exact XX b n a0 a1 a2 a3 a4 a5 s0 s1 s2 s3 s4 s5 hl v e w f0 (.inr ⟨f1,by rw[beq_iff_eq];exact e2⟩)
 have f2:(e==140)=false:=by rw[Qh];exact e2
 have e12:¬(e=141\/e=140):=fun h=>h.elim e1 e2
 by_cases e3:e=100
 ·have er:AE.ended ⟨b,n,⟨a0,a1,a2,a3,a4,a5⟩,⟨s0,s1,s2,s3,s4,s5⟩,hl⟩ e=⟨b+1,0,⟨s0,s1,s2,s3,s4,s5⟩,⟨s0,s1,s2,s3,s4,s5⟩,false⟩:=by unfold AE.ended;rw[if_neg e12,if_pos (.inl e3)];rfl
  rw[er];exact X4 b n a0 a1 a2 a3 a4 a5 s0 s1 s2 s3 s4 s5 hl v e w b1 b2 f0 f1 f2 (.inl (by rw[beq_iff_eq];exact e3))
 have f3:(e==100)=false:=by rw[Qh];exact e3
 by_cases e4:e=130
 ·have er:AE.ended ⟨b,n,⟨a0,a1,a2,a3,a4,a5⟩,⟨s0,s1,s2,s3,s4,s5⟩,hl⟩ e=⟨b+1,0,⟨s0,s1,s2,s3,s4,s5⟩,⟨s0,s1,s2,s3,s4,s5⟩,false⟩:=by unfold AE.ended;rw[if_neg e12,if_pos (.inr e4)];rfl
  rw[er];exact X4 b n a0 a1 a2 a3 a4 a5 s0 s1 s2 s3 s4 s5 hl v e w b1 b2 f0 f1 f2 (.inr ⟨f3,by rw[beq_iff_eq];exact e4⟩)
 have f4:(e==130)=false:=by rw[Qh];exact e4
 have er:AE.ended ⟨b,n,⟨a0,a1,a2,a3,a4,a5⟩,⟨s0,s1,s2,s3,s4,s5⟩,hl⟩ e=⟨b,n+1,⟨a0,a1,a2,a3,a4,a5⟩,⟨s0,s1,s2,s3,s4,s5⟩,hl⟩:=by unfold AE.ended;rw[if_neg e12,if_neg (fun h=>h.elim e3 e4)]
 rw[er];exact qo9 b n a0 a1 a2 a3 a4 a5 s0 s1 s2 s3 s4 s5 hl v e w n1 n2 f0 f1 f2 f3 f4
def gd (h:AE) (v e:Int) (hn:0<=h.n/\h.n<=4096) (hb:0<=h.b/\h.b<=4096) (w:Aa) {b7:Nat} (j7:An w b7 h.cells 49) :
  Ab ANa 85 #[v,e,ptr b7] w fun e' w'=>e'=O (Ak #[(h.ended e).v,(ky v e).val])/\Ae w w w':=by
 have HE:=Qa (fun w=>LQ h v e hn hb w)
 generalize h.ended e=h' at *;generalize ky v e=a' at *;clear hn hb;obtain⟨b,n,⟨a0,a1,a2,a3,a4,a5⟩,⟨s0,s1,s2,s3,s4,s5⟩,hl⟩:=h;obtain⟨b',n',⟨r0,r1,r2,r3,r4,r5⟩,⟨p0,p1,p2,p3,p4,p5⟩,hl'⟩:=h';obtain⟨ak,ae,av⟩:=a';have c7:=j7.cell;unfold AE.cells at c7;have l7:=j7.lt;have HE:=Qa (fun w=>show Ab ANa 86 #[Al #[b,n,a0,a1,a2,a3,a4,a5,s0,s1,s2,s3,s4,s5,hl],v,e] w fun e' w'=>e'=O (Ak #[Al #[b',n',r0,r1,r2,r3,r4,r5,p0,p1,p2,p3,p4,p5,hl'],Al #[ak,ae,av]])/\Ae w w w' from HE.o w)
 clear j7;go_in;go_wp2_with fail;refine (HE.o _).mono ?_
 rintro e1 w1 ⟨rfl,hb1⟩
 have j5:=(An.Ax w (AE.cells ⟨0,0,⟨0,0,0,0,0,0⟩,⟨0,0,0,0,0,0⟩,false⟩) _ 49 w.1.size rfl rfl).alloc (ANb #[(),(),()] 33);have j6:An _ (w.1.size+1) FF 33:=An.Ax (w.alloc (.cells (AE.cells ⟨0,0,⟨0,0,0,0,0,0⟩,⟨0,0,0,0,0,0⟩,false⟩) 49)) #[(),(),()] FF 33 (w.1.size+1) (by simp) rfl
 replace j5:=j5.below hb1 j5.lt;replace j6:=j6.below hb1 j6.lt;have hb2:=qe (qc (qc (qd w) _) _) hb1;have c5:=j5.cell;unfold AE.cells at c5;have z5:=j5.free;have l5:=j5.lt;have c6:=j6.cell;unfold FF at c6;have z6:=j6.free;have l6:=j6.lt;have hres:=Qa (ji j5 j6 (by omega) ⟨b',n',⟨r0,r1,r2,r3,r4,r5⟩,⟨p0,p1,p2,p3,p4,p5⟩,hl'⟩ ⟨ak,ae,av⟩)
 have hrb:=Qa (yi hb2 (b6:=w.1.size) (b7:=w.1.size+1) (by omega) (by omega) ⟨b',n',⟨r0,r1,r2,r3,r4,r5⟩,⟨p0,p1,p2,p3,p4,p5⟩,hl'⟩ ⟨ak,ae,av⟩)
 clear hb1 hb2 j5 j6 c7 l7 HE;go_wp2_with fail;change bodyPost _ _ _ _ _ (js w1 (w.1.size) (w.1.size+1) ⟨b',n',⟨r0,r1,r2,r3,r4,r5⟩,⟨p0,p1,p2,p3,p4,p5⟩,hl'⟩ ⟨ak,ae,av⟩);generalize js w1 (w.1.size) (w.1.size+1) ⟨b',n',⟨r0,r1,r2,r3,r4,r5⟩,⟨p0,p1,p2,p3,p4,p5⟩,hl'⟩ ⟨ak,ae,av⟩=X at *;exact bodyPost_ret (qr _ _ 5 6 rfl rfl rfl hres.o.1 hres.o.2) rfl ⟨rfl,hrb.o⟩
