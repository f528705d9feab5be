import Derived.Test.YteehgedabdchcaaGreatKau
set_option linter.all false
set_option maxRecDepth 1000000
set_option maxHeartbeats 16000000
open Go renaming World->Aa,Calls->Ab
open Go.RowKit renaming Below->Ae
open Go.Value renaming int->I,tuple->Aj,agg->Ak
open Go.IntKind renaming i64->Z
open Go.Ending renaming returned->O
namespace Go.Proofs.YteehgedabdchcaaGreat
open Go.RowKit Hp
attribute [local go_sem ↓] Go.wp_at_zero Go.wp_at_succ
def AD.ended (h:AD)(e:Int):AD:=
 if e=141\/e=140 then h.back else if e=100\/e=130 then { h.back with b:=h.b+1 } else { h with n:=h.n+1 }
def kw (v e:Int):Bf:=⟨2,e,if e=0 then v else 0⟩
section
variable (b n a0 a1 a2 a3 a4 a5 s0 s1 s2 s3 s4 s5 : Int) (hl : Bool) (v e : Int) (w : Aa)
theorem JB (n1:0<=n) (n2:n<=4096):Ab Tryz.prog 214 #[Ak #[I Z b,I Z n,I Z a0,I Z a1,I Z a2,I Z a3,I Z a4,I Z a5,I Z s0,I Z s1,I Z s2,I Z s3,I Z s4,I Z s5,.bool hl],I Z v,I Z 0] w fun e' w'=>e'=O (Aj #[AD.v ⟨b,(n+1),⟨a0,a1,a2,a3,a4,a5⟩,⟨s0,s1,s2,s3,s4,s5⟩,hl⟩,Bf.val ⟨2,0,v⟩])/\Ae w.heap.size w w':=by
 go_enter Tryz.func214,Tryz.ntmps214;go_upto_region 14 with fail;obtain⟨W,hW⟩:∃ W:Aa,W=((((w.alloc (.cells #[I Z b,I Z (n+1),I Z a0,I Z a1,I Z a2,I Z a3,I Z a4,I Z a5,I Z s0,I Z s1,I Z s2,I Z s3,I Z s4,I Z s5,.bool hl] 58)).alloc (.cells #[I Z 0,I Z 0,I Z 0,I Z 0,I Z 0,I Z 0,I Z 0,I Z 0,I Z 0,I Z 0,I Z 0,I Z 0,I Z 0,I Z 0,.bool false] 58)).alloc (.cells #[I Z 0,I Z 0,I Z 0] 54)).alloc (.cells #[I Z 2,I Z 0,I Z v] 54)):=⟨_,rfl⟩;rw[<-hW];have j3:Am W w.heap.size #[I Z b,I Z (n+1),I Z a0,I Z a1,I Z a2,I Z a3,I Z a4,I Z a5,I Z s0,I Z s1,I Z s2,I Z s3,I Z s4,I Z s5,.bool hl] 58:=by rw[hW];exact (((Am.new w _ _).alloc _).alloc _).alloc _
 have j6:Am W (w.heap.size+1) #[I Z 0,I Z 0,I Z 0,I Z 0,I Z 0,I Z 0,I Z 0,I Z 0,I Z 0,I Z 0,I Z 0,I Z 0,I Z 0,I Z 0,.bool false] 58:=by rw[hW];exact ((Am.Aq _ _ _ _ _ (by simp) rfl).alloc _).alloc _
 have j7:Am W (w.heap.size+1+1) #[I Z 0,I Z 0,I Z 0] 54:=by rw[hW];exact (Am.Aq _ _ _ _ _ (by simp) rfl).alloc _
 have j8:Am W (w.heap.size+1+1+1) #[I Z 2,I Z 0,I Z v] 54:=by rw[hW];exact Am.Aq _ _ _ _ _ (by simp) rfl
 have hbW:Ae w.heap.size w W:=by rw[hW];exact qa (qa (qa (qa (qc w) _) _) _) _
 clear hW;have c3:=j3.cell;have c6:=j6.cell;have z6:=j6.free;have l6:=j6.lt;have c7:=j7.cell;have z7:=j7.free;have l7:=j7.lt;have c8:=j8.cell;have hres:=Qa (zu (t6:=58) (t7:=54) j6 j7 (by omega) ⟨b,(n+1),⟨a0,a1,a2,a3,a4,a5⟩,⟨s0,s1,s2,s3,s4,s5⟩,hl⟩ ⟨2,0,v⟩)
 have hrb:=Qa (xf hbW (b6:=w.heap.size+1) (b7:=w.heap.size+1+1) (by omega) (by omega) ⟨b,(n+1),⟨a0,a1,a2,a3,a4,a5⟩,⟨s0,s1,s2,s3,s4,s5⟩,hl⟩ ⟨2,0,v⟩)
 clear j3 j6 j7 j8 hbW;go_region
 all_goals
  go_wp2_with fail;change bodyPost _ _ _ _ _ (jd W (w.heap.size+1) (w.heap.size+1+1) ⟨b,(n+1),⟨a0,a1,a2,a3,a4,a5⟩,⟨s0,s1,s2,s3,s4,s5⟩,hl⟩ ⟨2,0,v⟩).drew;generalize jd W (w.heap.size+1) (w.heap.size+1+1) ⟨b,(n+1),⟨a0,a1,a2,a3,a4,a5⟩,⟨s0,s1,s2,s3,s4,s5⟩,hl⟩ ⟨2,0,v⟩=X at *;exact bodyPost_ret (qq _ _ 6 7 rfl rfl rfl (qi hres.out.1) (qi hres.out.2)) rfl ⟨rfl,qe hrb.out⟩
theorem XT (n1:0<=n) (n2:n<=4096) (f0:(e==0)=false) (f1:(e==141)=false) (f2:(e==140)=false) (f3:(e==100)=false) (f4:(e==130)=false):Ab Tryz.prog 214 #[Ak #[I Z b,I Z n,I Z a0,I Z a1,I Z a2,I Z a3,I Z a4,I Z a5,I Z s0,I Z s1,I Z s2,I Z s3,I Z s4,I Z s5,.bool hl],I Z v,I Z e] w fun e' w'=>e'=O (Aj #[AD.v ⟨b,(n+1),⟨a0,a1,a2,a3,a4,a5⟩,⟨s0,s1,s2,s3,s4,s5⟩,hl⟩,Bf.val ⟨2,e,0⟩])/\Ae w.heap.size w w':=by
 go_enter Tryz.func214,Tryz.ntmps214;go_upto_region 14 with fail;obtain⟨W,hW⟩:∃ W:Aa,W=((((w.alloc (.cells #[I Z b,I Z (n+1),I Z a0,I Z a1,I Z a2,I Z a3,I Z a4,I Z a5,I Z s0,I Z s1,I Z s2,I Z s3,I Z s4,I Z s5,.bool hl] 58)).alloc (.cells #[I Z 0,I Z 0,I Z 0,I Z 0,I Z 0,I Z 0,I Z 0,I Z 0,I Z 0,I Z 0,I Z 0,I Z 0,I Z 0,I Z 0,.bool false] 58)).alloc (.cells #[I Z 0,I Z 0,I Z 0] 54)).alloc (.cells #[I Z 2,I Z e,I Z 0] 54)):=⟨_,rfl⟩;rw[<-hW];have j3:Am W w.heap.size #[I Z b,I Z (n+1),I Z a0,I Z a1,I Z a2,I Z a3,I Z a4,I Z a5,I Z s0,I Z s1,I Z s2,I Z s3,I Z s4,I Z s5,.bool hl] 58:=by rw[hW];exact (((Am.new w _ _).alloc _).alloc _).alloc _
 have j6:Am W (w.heap.size+1) #[I Z 0,I Z 0,I Z 0,I Z 0,I Z 0,I Z 0,I Z 0,I Z 0,I Z 0,I Z 0,I Z 0,I Z 0,I Z 0,I Z 0,.bool false] 58:=by rw[hW];exact ((Am.Aq _ _ _ _ _ (by simp) rfl).alloc _).alloc _
 have j7:Am W (w.heap.size+1+1) #[I Z 0,I Z 0,I Z 0] 54:=by rw[hW];exact (Am.Aq _ _ _ _ _ (by simp) rfl).alloc _
 have j8:Am W (w.heap.size+1+1+1) #[I Z 2,I Z e,I Z 0] 54:=by rw[hW];exact Am.Aq _ _ _ _ _ (by simp) rfl
 have hbW:Ae w.heap.size w W:=by rw[hW];exact qa (qa (qa (qa (qc w) _) _) _) _
 clear hW;have c3:=j3.cell;have c6:=j6.cell;have z6:=j6.free;have l6:=j6.lt;have c7:=j7.cell;have z7:=j7.free;have l7:=j7.lt;have c8:=j8.cell;have hres:=Qa (zu (t6:=58) (t7:=54) j6 j7 (by omega) ⟨b,(n+1),⟨a0,a1,a2,a3,a4,a5⟩,⟨s0,s1,s2,s3,s4,s5⟩,hl⟩ ⟨2,e,0⟩)
 have hrb:=Qa (xf hbW (b6:=w.heap.size+1) (b7:=w.heap.size+1+1) (by omega) (by omega) ⟨b,(n+1),⟨a0,a1,a2,a3,a4,a5⟩,⟨s0,s1,s2,s3,s4,s5⟩,hl⟩ ⟨2,e,0⟩)
 clear j3 j6 j7 j8 hbW;go_region
 all_goals
  go_wp2_with fail;change bodyPost _ _ _ _ _ (jd W (w.heap.size+1) (w.heap.size+1+1) ⟨b,(n+1),⟨a0,a1,a2,a3,a4,a5⟩,⟨s0,s1,s2,s3,s4,s5⟩,hl⟩ ⟨2,e,0⟩).drew;generalize jd W (w.heap.size+1) (w.heap.size+1+1) ⟨b,(n+1),⟨a0,a1,a2,a3,a4,a5⟩,⟨s0,s1,s2,s3,s4,s5⟩,hl⟩ ⟨2,e,0⟩=X at *;exact bodyPost_ret (qq _ _ 6 7 rfl rfl rfl (qi hres.out.1) (qi hres.out.2)) rfl ⟨rfl,qe hrb.out⟩
theorem Vt (f0:(e==0)=false) (hf:(e==141)=true\/((e==141)=false/\(e==140)=true)):Ab Tryz.prog 214 #[Ak #[I Z b,I Z n,I Z a0,I Z a1,I Z a2,I Z a3,I Z a4,I Z a5,I Z s0,I Z s1,I Z s2,I Z s3,I Z s4,I Z s5,.bool hl],I Z v,I Z e] w fun e' w'=>e'=O (Aj #[AD.v ⟨b,0,⟨s0,s1,s2,s3,s4,s5⟩,⟨s0,s1,s2,s3,s4,s5⟩,false⟩,Bf.val ⟨2,e,0⟩])/\Ae w.heap.size w w':=by
 rcases hf with g1|⟨g1,g2⟩
 all_goals
  have HB:=Qa (fun w=>show Ab Tryz.prog 212 #[Ak #[I Z b,I Z n,I Z a0,I Z a1,I Z a2,I Z a3,I Z a4,I Z a5,I Z s0,I Z s1,I Z s2,I Z s3,I Z s4,I Z s5,.bool hl]] w fun e w'=>e=O (Ak #[I Z b,I Z 0,I Z s0,I Z s1,I Z s2,I Z s3,I Z s4,I Z s5,I Z s0,I Z s1,I Z s2,I Z s3,I Z s4,I Z s5,.bool false])/\Ae w.heap.size w w' from tu ⟨b,n,⟨a0,a1,a2,a3,a4,a5⟩,⟨s0,s1,s2,s3,s4,s5⟩,hl⟩ w)
  go_enter Tryz.func214,Tryz.ntmps214;obtain⟨W0,hW0⟩:∃ W:Aa,W=((((w.alloc (.cells #[I Z b,I Z n,I Z a0,I Z a1,I Z a2,I Z a3,I Z a4,I Z a5,I Z s0,I Z s1,I Z s2,I Z s3,I Z s4,I Z s5,.bool hl] 58)).alloc (.cells #[I Z 0,I Z 0,I Z 0,I Z 0,I Z 0,I Z 0,I Z 0,I Z 0,I Z 0,I Z 0,I Z 0,I Z 0,I Z 0,I Z 0,.bool false] 58)).alloc (.cells #[I Z 0,I Z 0,I Z 0] 54)).alloc (.cells #[I Z 2,I Z e,I Z 0] 54)):=⟨_,rfl⟩;have j3:Am W0 w.heap.size #[I Z b,I Z n,I Z a0,I Z a1,I Z a2,I Z a3,I Z a4,I Z a5,I Z s0,I Z s1,I Z s2,I Z s3,I Z s4,I Z s5,.bool hl] 58:=by rw[hW0];exact (((Am.new w _ _).alloc _).alloc _).alloc _
  have j6:Am W0 (w.heap.size+1) #[I Z 0,I Z 0,I Z 0,I Z 0,I Z 0,I Z 0,I Z 0,I Z 0,I Z 0,I Z 0,I Z 0,I Z 0,I Z 0,I Z 0,.bool false] 58:=by rw[hW0];exact ((Am.Aq _ _ _ _ _ (by simp) rfl).alloc _).alloc _
  have j7:Am W0 (w.heap.size+1+1) #[I Z 0,I Z 0,I Z 0] 54:=by rw[hW0];exact (Am.Aq _ _ _ _ _ (by simp) rfl).alloc _
  have j8:Am W0 (w.heap.size+1+1+1) #[I Z 2,I Z e,I Z 0] 54:=by rw[hW0];exact Am.Aq _ _ _ _ _ (by simp) rfl
  have hbW:Ae w.heap.size w W0:=by rw[hW0];exact qa (qa (qa (qa (qc w) _) _) _) _
  go_wp2_with fail;rw[<-hW0];clear hW0;refine (HB.out _).mono ?_
  rintro e1 W1 ⟨rfl,hb1⟩
  replace j3:=j3.below hb1 j3.lt;replace j6:=j6.below hb1 j6.lt;replace j7:=j7.below hb1 j7.lt;replace j8:=j8.below hb1 j8.lt;replace hbW:=qd hbW hb1;clear hb1 HB;have c3:=j3.cell;have z3:=j3.free;have l3:=j3.lt;go_upto_region 14 with fail;clear c3 z3 l3;obtain⟨W,hW⟩:∃ W:Aa,W=CN W1 w.heap.size ⟨b,0,⟨s0,s1,s2,s3,s4,s5⟩,⟨s0,s1,s2,s3,s4,s5⟩,false⟩:=⟨_,rfl⟩;change Code.wp _ _ _ _ (CN W1 w.heap.size ⟨b,0,⟨s0,s1,s2,s3,s4,s5⟩,⟨s0,s1,s2,s3,s4,s5⟩,false⟩);rw[<-hW];have k3:Am W w.heap.size #[I Z b,I Z 0,I Z s0,I Z s1,I Z s2,I Z s3,I Z s4,I Z s5,I Z s0,I Z s1,I Z s2,I Z s3,I Z s4,I Z s5,.bool false] 58:=by rw[hW];exact (me (g:=⟨b,n,⟨a0,a1,a2,a3,a4,a5⟩,⟨s0,s1,s2,s3,s4,s5⟩,hl⟩) j3 ⟨b,0,⟨s0,s1,s2,s3,s4,s5⟩,⟨s0,s1,s2,s3,s4,s5⟩,false⟩)
  have k6:Am W (w.heap.size+1) #[I Z 0,I Z 0,I Z 0,I Z 0,I Z 0,I Z 0,I Z 0,I Z 0,I Z 0,I Z 0,I Z 0,I Z 0,I Z 0,I Z 0,.bool false] 58:=by rw[hW];exact (ya j6 (by omega) _)
  have k7:Am W (w.heap.size+1+1) #[I Z 0,I Z 0,I Z 0] 54:=by rw[hW];exact (ya j7 (by omega) _)
  have k8:Am W (w.heap.size+1+1+1) #[I Z 2,I Z e,I Z 0] 54:=by rw[hW];exact (ya j8 (by omega) _)
  have kb:Ae w.heap.size w W:=by rw[hW];exact dh hbW (Qk _) _
  clear hW j3 j6 j7 j8 hbW;have j3:=k3;have j6:=k6;have j7:=k7;have j8:=k8;have hbW:=kb;clear k3 k6 k7 k8 kb;have c3:=j3.cell;have c6:=j6.cell;have z6:=j6.free;have l6:=j6.lt;have c7:=j7.cell;have z7:=j7.free;have l7:=j7.lt;have c8:=j8.cell;have hres:=Qa (zu (t6:=58) (t7:=54) j6 j7 (by omega) ⟨b,0,⟨s0,s1,s2,s3,s4,s5⟩,⟨s0,s1,s2,s3,s4,s5⟩,false⟩ ⟨2,e,0⟩)
  have hrb:=Qa (xf hbW (b6:=w.heap.size+1) (b7:=w.heap.size+1+1) (by omega) (by omega) ⟨b,0,⟨s0,s1,s2,s3,s4,s5⟩,⟨s0,s1,s2,s3,s4,s5⟩,false⟩ ⟨2,e,0⟩)
  clear j3 j6 j7 j8 hbW;go_region
  all_goals
   go_wp2_with fail;change bodyPost _ _ _ _ _ (jd W (w.heap.size+1) (w.heap.size+1+1) ⟨b,0,⟨s0,s1,s2,s3,s4,s5⟩,⟨s0,s1,s2,s3,s4,s5⟩,false⟩ ⟨2,e,0⟩).drew;generalize jd W (w.heap.size+1) (w.heap.size+1+1) ⟨b,0,⟨s0,s1,s2,s3,s4,s5⟩,⟨s0,s1,s2,s3,s4,s5⟩,false⟩ ⟨2,e,0⟩=X at *;exact bodyPost_ret (qq _ _ 6 7 rfl rfl rfl (qi hres.out.1) (qi hres.out.2)) rfl ⟨rfl,qe hrb.out⟩
theorem UH (b1:0<=b) (b2:b<=4096) (f0:(e==0)=false) (f1:(e==141)=false) (f2:(e==140)=false) (hf:(e==100)=true\/((e==100)=false/\(e==130)=true)):Ab Tryz.prog 214 #[Ak #[I Z b,I Z n,I Z a0,I Z a1,I Z a2,I Z a3,I Z a4,I Z a5,I Z s0,I Z s1,I Z s2,I Z s3,I Z s4,I Z s5,.bool hl],I Z v,I Z e] w fun e' w'=>e'=O (Aj #[AD.v ⟨(b+1),0,⟨s0,s1,s2,s3,s4,s5⟩,⟨s0,s1,s2,s3,s4,s5⟩,false⟩,Bf.val ⟨2,e,0⟩])/\Ae w.heap.size w w':=by
 rcases hf with g1|⟨g1,g2⟩
 all_goals
  have HB:=Qa (fun w=>show Ab Tryz.prog 212 #[Ak #[I Z b,I Z n,I Z a0,I Z a1,I Z a2,I Z a3,I Z a4,I Z a5,I Z s0,I Z s1,I Z s2,I Z s3,I Z s4,I Z s5,.bool hl]] w fun e w'=>e=O (Ak #[I Z b,I Z 0,I Z s0,I Z s1,I Z s2,I Z s3,I Z s4,I Z s5,I Z s0,I Z s1,I Z s2,I Z s3,I Z s4,I Z s5,.bool false])/\Ae w.heap.size w w' from tu ⟨b,n,⟨a0,a1,a2,a3,a4,a5⟩,⟨s0,s1,s2,s3,s4,s5⟩,hl⟩ w)
  go_enter Tryz.func214,Tryz.ntmps214;obtain⟨W0,hW0⟩:∃ W:Aa,W=((((w.alloc (.cells #[I Z b,I Z n,I Z a0,I Z a1,I Z a2,I Z a3,I Z a4,I Z a5,I Z s0,I Z s1,I Z s2,I Z s3,I Z s4,I Z s5,.bool hl] 58)).alloc (.cells #[I Z 0,I Z 0,I Z 0,I Z 0,I Z 0,I Z 0,I Z 0,I Z 0,I Z 0,I Z 0,I Z 0,I Z 0,I Z 0,I Z 0,.bool false] 58)).alloc (.cells #[I Z 0,I Z 0,I Z 0] 54)).alloc (.cells #[I Z 2,I Z e,I Z 0] 54)):=⟨_,rfl⟩;have j3:Am W0 w.heap.size #[I Z b,I Z n,I Z a0,I Z a1,I Z a2,I Z a3,I Z a4,I Z a5,I Z s0,I Z s1,I Z s2,I Z s3,I Z s4,I Z s5,.bool hl] 58:=by rw[hW0];exact (((Am.new w _ _).alloc _).alloc _).alloc _
  have j6:Am W0 (w.heap.size+1) #[I Z 0,I Z 0,I Z 0,I Z 0,I Z 0,I Z 0,I Z 0,I Z 0,I Z 0,I Z 0,I Z 0,I Z 0,I Z 0,I Z 0,.bool false] 58:=by rw[hW0];exact ((Am.Aq _ _ _ _ _ (by simp) rfl).alloc _).alloc _
  have j7:Am W0 (w.heap.size+1+1) #[I Z 0,I Z 0,I Z 0] 54:=by rw[hW0];exact (Am.Aq _ _ _ _ _ (by simp) rfl).alloc _
  have j8:Am W0 (w.heap.size+1+1+1) #[I Z 2,I Z e,I Z 0] 54:=by rw[hW0];exact Am.Aq _ _ _ _ _ (by simp) rfl
  have hbW:Ae w.heap.size w W0:=by rw[hW0];exact qa (qa (qa (qa (qc w) _) _) _) _
  go_wp2_with fail;rw[<-hW0];clear hW0;refine (HB.out _).mono ?_
  rintro e1 W1 ⟨rfl,hb1⟩
  replace j3:=j3.below hb1 j3.lt;replace j6:=j6.below hb1 j6.lt;replace j7:=j7.below hb1 j7.lt;replace j8:=j8.below hb1 j8.lt;replace hbW:=qd hbW hb1;clear hb1 HB;have c3:=j3.cell;have z3:=j3.free;have l3:=j3.lt;go_upto_region 14 with fail;clear c3 z3 l3;obtain⟨W,hW⟩:∃ W:Aa,W=(CN W1 w.heap.size ⟨b,0,⟨s0,s1,s2,s3,s4,s5⟩,⟨s0,s1,s2,s3,s4,s5⟩,false⟩).setCell ⟨w.heap.size,0,none⟩ (I Z (b+1)):=⟨_,rfl⟩;change Code.wp _ _ _ _ ((CN W1 w.heap.size ⟨b,0,⟨s0,s1,s2,s3,s4,s5⟩,⟨s0,s1,s2,s3,s4,s5⟩,false⟩).setCell ⟨w.heap.size,0,none⟩ (I Z (b+1)));rw[<-hW];have k3:Am W w.heap.size #[I Z (b+1),I Z 0,I Z s0,I Z s1,I Z s2,I Z s3,I Z s4,I Z s5,I Z s0,I Z s1,I Z s2,I Z s3,I Z s4,I Z s5,.bool false] 58:=by rw[hW];exact (me (g:=⟨b,n,⟨a0,a1,a2,a3,a4,a5⟩,⟨s0,s1,s2,s3,s4,s5⟩,hl⟩) j3 ⟨b,0,⟨s0,s1,s2,s3,s4,s5⟩,⟨s0,s1,s2,s3,s4,s5⟩,false⟩).set 0 (I Z (b+1))
  have k6:Am W (w.heap.size+1) #[I Z 0,I Z 0,I Z 0,I Z 0,I Z 0,I Z 0,I Z 0,I Z 0,I Z 0,I Z 0,I Z 0,I Z 0,I Z 0,I Z 0,.bool false] 58:=by rw[hW];exact (ya j6 (by omega) _).An (a:=⟨w.heap.size,0,none⟩) (by show _≠w.heap.size;omega) (I Z (b+1))
  have k7:Am W (w.heap.size+1+1) #[I Z 0,I Z 0,I Z 0] 54:=by rw[hW];exact (ya j7 (by omega) _).An (a:=⟨w.heap.size,0,none⟩) (by show _≠w.heap.size;omega) (I Z (b+1))
  have k8:Am W (w.heap.size+1+1+1) #[I Z 2,I Z e,I Z 0] 54:=by rw[hW];exact (ya j8 (by omega) _).An (a:=⟨w.heap.size,0,none⟩) (by show _≠w.heap.size;omega) (I Z (b+1))
  have kb:Ae w.heap.size w W:=by rw[hW];exact qo (dh hbW (Qk _) _) (Qk _) _
  clear hW j3 j6 j7 j8 hbW;have j3:=k3;have j6:=k6;have j7:=k7;have j8:=k8;have hbW:=kb;clear k3 k6 k7 k8 kb;have c3:=j3.cell;have c6:=j6.cell;have z6:=j6.free;have l6:=j6.lt;have c7:=j7.cell;have z7:=j7.free;have l7:=j7.lt;have c8:=j8.cell;have hres:=Qa (zu (t6:=58) (t7:=54) j6 j7 (by omega) ⟨(b+1),0,⟨s0,s1,s2,s3,s4,s5⟩,⟨s0,s1,s2,s3,s4,s5⟩,false⟩ ⟨2,e,0⟩)
  have hrb:=Qa (xf hbW (b6:=w.heap.size+1) (b7:=w.heap.size+1+1) (by omega) (by omega) ⟨(b+1),0,⟨s0,s1,s2,s3,s4,s5⟩,⟨s0,s1,s2,s3,s4,s5⟩,false⟩ ⟨2,e,0⟩)
  clear j3 j6 j7 j8 hbW;go_region
  all_goals
   go_wp2_with fail;change bodyPost _ _ _ _ _ (jd W (w.heap.size+1) (w.heap.size+1+1) ⟨(b+1),0,⟨s0,s1,s2,s3,s4,s5⟩,⟨s0,s1,s2,s3,s4,s5⟩,false⟩ ⟨2,e,0⟩).drew;generalize jd W (w.heap.size+1) (w.heap.size+1+1) ⟨(b+1),0,⟨s0,s1,s2,s3,s4,s5⟩,⟨s0,s1,s2,s3,s4,s5⟩,false⟩ ⟨2,e,0⟩=X at *;exact bodyPost_ret (qq _ _ 6 7 rfl rfl rfl (qi hres.out.1) (qi hres.out.2)) rfl ⟨rfl,qe hrb.out⟩
end
theorem Kx (h:AD)(v e:Int)(hn:0<=h.n/\h.n<=4096)(hb:0<=h.b/\h.b<=4096)(w:Aa) :
  Ab Tryz.prog 214 #[h.v,I Z v,I Z e] w fun e' w'=>e'=O (Aj #[(h.ended e).v,(kw v e).val])/\Ae w.heap.size w w':=by
 obtain⟨b,n,⟨a0,a1,a2,a3,a4,a5⟩,⟨s0,s1,s2,s3,s4,s5⟩,hl⟩:=h;obtain⟨n1,n2⟩:=hn;obtain⟨b1,b2⟩:=hb;simp only at n1 n2 b1 b2;by_cases e0:e=0
 ·subst e0
  have er:AD.ended ⟨b,n,⟨a0,a1,a2,a3,a4,a5⟩,⟨s0,s1,s2,s3,s4,s5⟩,hl⟩ 0=⟨b,n+1,⟨a0,a1,a2,a3,a4,a5⟩,⟨s0,s1,s2,s3,s4,s5⟩,hl⟩:=by unfold AD.ended;rfl
  have ea:kw v 0=⟨2,0,v⟩:=rfl;rw[er,ea];exact JB b n a0 a1 a2 a3 a4 a5 s0 s1 s2 s3 s4 s5 hl v w n1 n2
 have ea:kw v e=⟨2,e,0⟩:=by unfold kw;rw[if_neg e0]
 have f0:(e==0)=false:=by rw[Qh];exact e0
 rw[ea];by_cases e1:e=141
 ·have er:AD.ended ⟨b,n,⟨a0,a1,a2,a3,a4,a5⟩,⟨s0,s1,s2,s3,s4,s5⟩,hl⟩ e=⟨b,0,⟨s0,s1,s2,s3,s4,s5⟩,⟨s0,s1,s2,s3,s4,s5⟩,false⟩:=by unfold AD.ended;rw[if_pos (.inl e1)];rfl
  rw[er];exact Vt b n a0 a1 a2 a3 a4 a5 s0 s1 s2 s3 s4 s5 hl v e w f0 (.inl (by rw[beq_iff_eq];exact e1))
 have f1:(e==141)=false:=by rw[Qh];exact e1
 by_cases e2:e=140
 ·have er:AD.ended ⟨b,n,⟨a0,a1,a2,a3,a4,a5⟩,⟨s0,s1,s2,s3,s4,s5⟩,hl⟩ e=⟨b,0,⟨s0,s1,s2,s3,s4,s5⟩,⟨s0,s1,s2,s3,s4,s5⟩,false⟩:=by unfold AD.ended;rw[if_pos (.inr e2)];rfl
  rw[er];exact Vt b n a0 a1 a2 a3 a4 a5 s0 s1 s2 s3 s4 s5 hl v e w f0 (.inr ⟨f1,by rw[beq_iff_eq];exact e2⟩)
 have f2:(e==140)=false:=by rw[Qh];exact e2
 have e12:¬(e=141\/e=140):=fun h=>h.elim e1 e2
 by_cases e3:e=100
 ·have er:AD.ended ⟨b,n,⟨a0,a1,a2,a3,a4,a5⟩,⟨s0,s1,s2,s3,s4,s5⟩,hl⟩ e=⟨b+1,0,⟨s0,s1,s2,s3,s4,s5⟩,⟨s0,s1,s2,s3,s4,s5⟩,false⟩:=by unfold AD.ended;rw[if_neg e12,if_pos (.inl e3)];rfl
  rw[er];exact UH b n a0 a1 a2 a3 a4 a5 s0 s1 s2 s3 s4 s5 hl v e w b1 b2 f0 f1 f2 (.inl (by rw[beq_iff_eq];exact e3))
 have f3:(e==100)=false:=by rw[Qh];exact e3
 by_cases e4:e=130
 ·have er:AD.ended ⟨b,n,⟨a0,a1,a2,a3,a4,a5⟩,⟨s0,s1,s2,s3,s4,s5⟩,hl⟩ e=⟨b+1,0,⟨s0,s1,s2,s3,s4,s5⟩,⟨s0,s1,s2,s3,s4,s5⟩,false⟩:=by unfold AD.ended;rw[if_neg e12,if_pos (.inr e4)];rfl
  rw[er];exact UH b n a0 a1 a2 a3 a4 a5 s0 s1 s2 s3 s4 s5 hl v e w b1 b2 f0 f1 f2 (.inr ⟨f3,by rw[beq_iff_eq];exact e4⟩)
 have f4:(e==130)=false:=by rw[Qh];exact e4
 have er:AD.ended ⟨b,n,⟨a0,a1,a2,a3,a4,a5⟩,⟨s0,s1,s2,s3,s4,s5⟩,hl⟩ e=⟨b,n+1,⟨a0,a1,a2,a3,a4,a5⟩,⟨s0,s1,s2,s3,s4,s5⟩,hl⟩:=by unfold AD.ended;rw[if_neg e12,if_neg (fun h=>h.elim e3 e4)]
 rw[er];exact XT b n a0 a1 a2 a3 a4 a5 s0 s1 s2 s3 s4 s5 hl v e w n1 n2 f0 f1 f2 f3 f4
theorem uj (h:AD) (v e:Int) (hn:0<=h.n/\h.n<=4096) (hb:0<=h.b/\h.b<=4096) (w:Aa) {b7:Nat} (j7:Am w b7 h.cells 58) :
  Ab Tryz.prog 213 #[I Z v,I Z e,ptr b7] w fun e' w'=>e'=O (Aj #[(h.ended e).v,(kw v e).val])/\Ae w.heap.size w w':=by
 have HE:=Qa (fun w=>Kx h v e hn hb w)
 generalize h.ended e=h' at *;generalize kw v e=a' at *;clear hn hb;obtain⟨b,n,⟨a0,a1,a2,a3,a4,a5⟩,⟨s0,s1,s2,s3,s4,s5⟩,hl⟩:=h;obtain⟨b',n',⟨r0,r1,r2,r3,r4,r5⟩,⟨p0,p1,p2,p3,p4,p5⟩,hl'⟩:=h';obtain⟨ak,ae,av⟩:=a';have c7:=j7.cell;unfold AD.cells at c7;have l7:=j7.lt;have HE:=Qa (fun w=>show Ab Tryz.prog 214 #[Ak #[I Z b,I Z n,I Z a0,I Z a1,I Z a2,I Z a3,I Z a4,I Z a5,I Z s0,I Z s1,I Z s2,I Z s3,I Z s4,I Z s5,.bool hl],I Z v,I Z e] w fun e' w'=>e'=O (Aj #[Ak #[I Z b',I Z n',I Z r0,I Z r1,I Z r2,I Z r3,I Z r4,I Z r5,I Z p0,I Z p1,I Z p2,I Z p3,I Z p4,I Z p5,.bool hl'],Ak #[I Z ak,I Z ae,I Z av]])/\Ae w.heap.size w w' from HE.out w)
 clear j7;go_enter Tryz.func213,Tryz.ntmps213;go_wp2_with fail;refine (HE.out _).mono ?_
 rintro e1 w1 ⟨rfl,hb1⟩
 have j5:=(Am.Aq w (AD.cells ⟨0,0,⟨0,0,0,0,0,0⟩,⟨0,0,0,0,0,0⟩,false⟩) _ 58 w.heap.size rfl rfl).alloc (.cells #[I Z 0,I Z 0,I Z 0] 54);have j6:Am _ (w.heap.size+1) EN 54:=Am.Aq (w.alloc (.cells (AD.cells ⟨0,0,⟨0,0,0,0,0,0⟩,⟨0,0,0,0,0,0⟩,false⟩) 58)) #[I Z 0,I Z 0,I Z 0] EN 54 (w.heap.size+1) (by simp) rfl
 replace j5:=j5.below hb1 j5.lt;replace j6:=j6.below hb1 j6.lt;have hb2:=qd (qa (qa (qc w) _) _) hb1;have c5:=j5.cell;unfold AD.cells at c5;have z5:=j5.free;have l5:=j5.lt;have c6:=j6.cell;unfold EN at c6;have z6:=j6.free;have l6:=j6.lt;have hres:=Qa (zu j5 j6 (by omega) ⟨b',n',⟨r0,r1,r2,r3,r4,r5⟩,⟨p0,p1,p2,p3,p4,p5⟩,hl'⟩ ⟨ak,ae,av⟩)
 have hrb:=Qa (xf hb2 (b6:=w.heap.size) (b7:=w.heap.size+1) (by omega) (by omega) ⟨b',n',⟨r0,r1,r2,r3,r4,r5⟩,⟨p0,p1,p2,p3,p4,p5⟩,hl'⟩ ⟨ak,ae,av⟩)
 clear hb1 hb2 j5 j6 c7 l7 HE;go_wp2_with fail;change bodyPost _ _ _ _ _ (jd w1 (w.heap.size) (w.heap.size+1) ⟨b',n',⟨r0,r1,r2,r3,r4,r5⟩,⟨p0,p1,p2,p3,p4,p5⟩,hl'⟩ ⟨ak,ae,av⟩);generalize jd w1 (w.heap.size) (w.heap.size+1) ⟨b',n',⟨r0,r1,r2,r3,r4,r5⟩,⟨p0,p1,p2,p3,p4,p5⟩,hl'⟩ ⟨ak,ae,av⟩=X at *;exact bodyPost_ret (qq _ _ 5 6 rfl rfl rfl hres.out.1 hres.out.2) rfl ⟨rfl,hrb.out⟩
end Go.Proofs.YteehgedabdchcaaGreat
