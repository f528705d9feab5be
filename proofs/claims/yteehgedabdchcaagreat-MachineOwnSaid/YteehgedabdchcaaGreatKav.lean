import Derived.Test.YteehgedabdchcaaGreatKau
set_option linter.all false
set_option maxRecDepth 1000000
set_option maxHeartbeats 16000000
namespace Go.Proofs.YteehgedabdchcaaGreat
open Go.RowKit Hp
attribute [local go_sem ↓] Go.wp_at_zero Go.wp_at_succ
def ThV.ended (h:ThV)(e:Int):ThV:=
 if e=141∨e=140 then h.back else if e=100∨e=130 then { h.back with b:=h.b+1 } else { h with n:=h.n+1 }
def ky (v e:Int):ActV:=⟨2,e,if e=0 then v else 0⟩
section
variable (b n a0 a1 a2 a3 a4 a5 s0 s1 s2 s3 s4 s5 : Int) (hl : Bool) (v e : Int) (w : World)
theorem end_zero (n1:0≤n) (n2:n≤4096):Calls Tryz.prog 214 #[.agg #[.int .i64 b,.int .i64 n,.int .i64 a0,.int .i64 a1,.int .i64 a2,.int .i64 a3,.int .i64 a4,.int .i64 a5,.int .i64 s0,.int .i64 s1,.int .i64 s2,.int .i64 s3,.int .i64 s4,.int .i64 s5,.bool hl],.int .i64 v,.int .i64 0] w fun e' w'=>e'=.returned (.tuple #[ThV.v ⟨b,(n+1),⟨a0,a1,a2,a3,a4,a5⟩,⟨s0,s1,s2,s3,s4,s5⟩,hl⟩,ActV.val ⟨2,0,v⟩])∧Below w.heap.size w w':=by
 go_enter Tryz.func214,Tryz.ntmps214;go_upto_region 14 with fail;obtain⟨W,hW⟩:∃ W:World,W=((((w.alloc (.cells #[.int .i64 b,.int .i64 (n+1),.int .i64 a0,.int .i64 a1,.int .i64 a2,.int .i64 a3,.int .i64 a4,.int .i64 a5,.int .i64 s0,.int .i64 s1,.int .i64 s2,.int .i64 s3,.int .i64 s4,.int .i64 s5,.bool hl] 58)).alloc (.cells #[.int .i64 0,.int .i64 0,.int .i64 0,.int .i64 0,.int .i64 0,.int .i64 0,.int .i64 0,.int .i64 0,.int .i64 0,.int .i64 0,.int .i64 0,.int .i64 0,.int .i64 0,.int .i64 0,.bool false] 58)).alloc (.cells #[.int .i64 0,.int .i64 0,.int .i64 0] 54)).alloc (.cells #[.int .i64 2,.int .i64 0,.int .i64 v] 54)):=⟨_,rfl⟩;rw[←hW];have j3:Blk W w.heap.size #[.int .i64 b,.int .i64 (n+1),.int .i64 a0,.int .i64 a1,.int .i64 a2,.int .i64 a3,.int .i64 a4,.int .i64 a5,.int .i64 s0,.int .i64 s1,.int .i64 s2,.int .i64 s3,.int .i64 s4,.int .i64 s5,.bool hl] 58:=by rw[hW];exact (((Blk.new w _ _).alloc _).alloc _).alloc _
 have j6:Blk W (w.heap.size+1) #[.int .i64 0,.int .i64 0,.int .i64 0,.int .i64 0,.int .i64 0,.int .i64 0,.int .i64 0,.int .i64 0,.int .i64 0,.int .i64 0,.int .i64 0,.int .i64 0,.int .i64 0,.int .i64 0,.bool false] 58:=by rw[hW];exact ((Blk.new_at _ _ _ _ _ (by simp) rfl).alloc _).alloc _
 have j7:Blk W (w.heap.size+1+1) #[.int .i64 0,.int .i64 0,.int .i64 0] 54:=by rw[hW];exact (Blk.new_at _ _ _ _ _ (by simp) rfl).alloc _
 have j8:Blk W (w.heap.size+1+1+1) #[.int .i64 2,.int .i64 0,.int .i64 v] 54:=by rw[hW];exact Blk.new_at _ _ _ _ _ (by simp) rfl
 have hbW:Below w.heap.size w W:=by rw[hW];exact qa (qa (qa (qa (qc w) _) _) _) _
 clear hW;have c3:=j3.cell;have c6:=j6.cell;have z6:=j6.free;have l6:=j6.lt;have c7:=j7.cell;have z7:=j7.free;have l7:=j7.lt;have c8:=j8.cell;have hres:=Lib.hid (zr (t6:=58) (t7:=54) j6 j7 (by omega) ⟨b,(n+1),⟨a0,a1,a2,a3,a4,a5⟩,⟨s0,s1,s2,s3,s4,s5⟩,hl⟩ ⟨2,0,v⟩)
 have hrb:=Lib.hid (xg hbW (b6:=w.heap.size+1) (b7:=w.heap.size+1+1) (by omega) (by omega) ⟨b,(n+1),⟨a0,a1,a2,a3,a4,a5⟩,⟨s0,s1,s2,s3,s4,s5⟩,hl⟩ ⟨2,0,v⟩)
 clear j3 j6 j7 j8 hbW;go_region
 all_goals
  go_wp2_with fail;change bodyPost _ _ _ _ _ (zy W (w.heap.size+1) (w.heap.size+1+1) ⟨b,(n+1),⟨a0,a1,a2,a3,a4,a5⟩,⟨s0,s1,s2,s3,s4,s5⟩,hl⟩ ⟨2,0,v⟩).drew;generalize zy W (w.heap.size+1) (w.heap.size+1+1) ⟨b,(n+1),⟨a0,a1,a2,a3,a4,a5⟩,⟨s0,s1,s2,s3,s4,s5⟩,hl⟩ ⟨2,0,v⟩=X at *;exact bodyPost_ret (qq _ _ 6 7 rfl rfl rfl (qi hres.out.1) (qi hres.out.2)) rfl ⟨rfl,qe hrb.out⟩
theorem ql2 (n1:0≤n) (n2:n≤4096) (f0:(e==0)=false) (f1:(e==141)=false) (f2:(e==140)=false) (f3:(e==100)=false) (f4:(e==130)=false):Calls Tryz.prog 214 #[.agg #[.int .i64 b,.int .i64 n,.int .i64 a0,.int .i64 a1,.int .i64 a2,.int .i64 a3,.int .i64 a4,.int .i64 a5,.int .i64 s0,.int .i64 s1,.int .i64 s2,.int .i64 s3,.int .i64 s4,.int .i64 s5,.bool hl],.int .i64 v,.int .i64 e] w fun e' w'=>e'=.returned (.tuple #[ThV.v ⟨b,(n+1),⟨a0,a1,a2,a3,a4,a5⟩,⟨s0,s1,s2,s3,s4,s5⟩,hl⟩,ActV.val ⟨2,e,0⟩])∧Below w.heap.size w w':=by
 go_enter Tryz.func214,Tryz.ntmps214;go_upto_region 14 with fail;obtain⟨W,hW⟩:∃ W:World,W=((((w.alloc (.cells #[.int .i64 b,.int .i64 (n+1),.int .i64 a0,.int .i64 a1,.int .i64 a2,.int .i64 a3,.int .i64 a4,.int .i64 a5,.int .i64 s0,.int .i64 s1,.int .i64 s2,.int .i64 s3,.int .i64 s4,.int .i64 s5,.bool hl] 58)).alloc (.cells #[.int .i64 0,.int .i64 0,.int .i64 0,.int .i64 0,.int .i64 0,.int .i64 0,.int .i64 0,.int .i64 0,.int .i64 0,.int .i64 0,.int .i64 0,.int .i64 0,.int .i64 0,.int .i64 0,.bool false] 58)).alloc (.cells #[.int .i64 0,.int .i64 0,.int .i64 0] 54)).alloc (.cells #[.int .i64 2,.int .i64 e,.int .i64 0] 54)):=⟨_,rfl⟩;rw[←hW];have j3:Blk W w.heap.size #[.int .i64 b,.int .i64 (n+1),.int .i64 a0,.int .i64 a1,.int .i64 a2,.int .i64 a3,.int .i64 a4,.int .i64 a5,.int .i64 s0,.int .i64 s1,.int .i64 s2,.int .i64 s3,.int .i64 s4,.int .i64 s5,.bool hl] 58:=by rw[hW];exact (((Blk.new w _ _).alloc _).alloc _).alloc _
 have j6:Blk W (w.heap.size+1) #[.int .i64 0,.int .i64 0,.int .i64 0,.int .i64 0,.int .i64 0,.int .i64 0,.int .i64 0,.int .i64 0,.int .i64 0,.int .i64 0,.int .i64 0,.int .i64 0,.int .i64 0,.int .i64 0,.bool false] 58:=by rw[hW];exact ((Blk.new_at _ _ _ _ _ (by simp) rfl).alloc _).alloc _
 have j7:Blk W (w.heap.size+1+1) #[.int .i64 0,.int .i64 0,.int .i64 0] 54:=by rw[hW];exact (Blk.new_at _ _ _ _ _ (by simp) rfl).alloc _
 have j8:Blk W (w.heap.size+1+1+1) #[.int .i64 2,.int .i64 e,.int .i64 0] 54:=by rw[hW];exact Blk.new_at _ _ _ _ _ (by simp) rfl
 have hbW:Below w.heap.size w W:=by rw[hW];exact qa (qa (qa (qa (qc w) _) _) _) _
 clear hW;have c3:=j3.cell;have c6:=j6.cell;have z6:=j6.free;have l6:=j6.lt;have c7:=j7.cell;have z7:=j7.free;have l7:=j7.lt;have c8:=j8.cell;have hres:=Lib.hid (zr (t6:=58) (t7:=54) j6 j7 (by omega) ⟨b,(n+1),⟨a0,a1,a2,a3,a4,a5⟩,⟨s0,s1,s2,s3,s4,s5⟩,hl⟩ ⟨2,e,0⟩)
 have hrb:=Lib.hid (xg hbW (b6:=w.heap.size+1) (b7:=w.heap.size+1+1) (by omega) (by omega) ⟨b,(n+1),⟨a0,a1,a2,a3,a4,a5⟩,⟨s0,s1,s2,s3,s4,s5⟩,hl⟩ ⟨2,e,0⟩)
 clear j3 j6 j7 j8 hbW;go_region
 all_goals
  go_wp2_with fail;change bodyPost _ _ _ _ _ (zy W (w.heap.size+1) (w.heap.size+1+1) ⟨b,(n+1),⟨a0,a1,a2,a3,a4,a5⟩,⟨s0,s1,s2,s3,s4,s5⟩,hl⟩ ⟨2,e,0⟩).drew;generalize zy W (w.heap.size+1) (w.heap.size+1+1) ⟨b,(n+1),⟨a0,a1,a2,a3,a4,a5⟩,⟨s0,s1,s2,s3,s4,s5⟩,hl⟩ ⟨2,e,0⟩=X at *;exact bodyPost_ret (qq _ _ 6 7 rfl rfl rfl (qi hres.out.1) (qi hres.out.2)) rfl ⟨rfl,qe hrb.out⟩
theorem qgi (f0:(e==0)=false) (hf:(e==141)=true∨((e==141)=false∧(e==140)=true)):Calls Tryz.prog 214 #[.agg #[.int .i64 b,.int .i64 n,.int .i64 a0,.int .i64 a1,.int .i64 a2,.int .i64 a3,.int .i64 a4,.int .i64 a5,.int .i64 s0,.int .i64 s1,.int .i64 s2,.int .i64 s3,.int .i64 s4,.int .i64 s5,.bool hl],.int .i64 v,.int .i64 e] w fun e' w'=>e'=.returned (.tuple #[ThV.v ⟨b,0,⟨s0,s1,s2,s3,s4,s5⟩,⟨s0,s1,s2,s3,s4,s5⟩,false⟩,ActV.val ⟨2,e,0⟩])∧Below w.heap.size w w':=by
 rcases hf with g1|⟨g1,g2⟩
 all_goals
  have HB:=Lib.hid (fun w=>show Calls Tryz.prog 212 #[.agg #[.int .i64 b,.int .i64 n,.int .i64 a0,.int .i64 a1,.int .i64 a2,.int .i64 a3,.int .i64 a4,.int .i64 a5,.int .i64 s0,.int .i64 s1,.int .i64 s2,.int .i64 s3,.int .i64 s4,.int .i64 s5,.bool hl]] w fun e w'=>e=.returned (.agg #[.int .i64 b,.int .i64 0,.int .i64 s0,.int .i64 s1,.int .i64 s2,.int .i64 s3,.int .i64 s4,.int .i64 s5,.int .i64 s0,.int .i64 s1,.int .i64 s2,.int .i64 s3,.int .i64 s4,.int .i64 s5,.bool false])∧Below w.heap.size w w' from cf ⟨b,n,⟨a0,a1,a2,a3,a4,a5⟩,⟨s0,s1,s2,s3,s4,s5⟩,hl⟩ w)
  go_enter Tryz.func214,Tryz.ntmps214;obtain⟨W0,hW0⟩:∃ W:World,W=((((w.alloc (.cells #[.int .i64 b,.int .i64 n,.int .i64 a0,.int .i64 a1,.int .i64 a2,.int .i64 a3,.int .i64 a4,.int .i64 a5,.int .i64 s0,.int .i64 s1,.int .i64 s2,.int .i64 s3,.int .i64 s4,.int .i64 s5,.bool hl] 58)).alloc (.cells #[.int .i64 0,.int .i64 0,.int .i64 0,.int .i64 0,.int .i64 0,.int .i64 0,.int .i64 0,.int .i64 0,.int .i64 0,.int .i64 0,.int .i64 0,.int .i64 0,.int .i64 0,.int .i64 0,.bool false] 58)).alloc (.cells #[.int .i64 0,.int .i64 0,.int .i64 0] 54)).alloc (.cells #[.int .i64 2,.int .i64 e,.int .i64 0] 54)):=⟨_,rfl⟩;have j3:Blk W0 w.heap.size #[.int .i64 b,.int .i64 n,.int .i64 a0,.int .i64 a1,.int .i64 a2,.int .i64 a3,.int .i64 a4,.int .i64 a5,.int .i64 s0,.int .i64 s1,.int .i64 s2,.int .i64 s3,.int .i64 s4,.int .i64 s5,.bool hl] 58:=by rw[hW0];exact (((Blk.new w _ _).alloc _).alloc _).alloc _
  have j6:Blk W0 (w.heap.size+1) #[.int .i64 0,.int .i64 0,.int .i64 0,.int .i64 0,.int .i64 0,.int .i64 0,.int .i64 0,.int .i64 0,.int .i64 0,.int .i64 0,.int .i64 0,.int .i64 0,.int .i64 0,.int .i64 0,.bool false] 58:=by rw[hW0];exact ((Blk.new_at _ _ _ _ _ (by simp) rfl).alloc _).alloc _
  have j7:Blk W0 (w.heap.size+1+1) #[.int .i64 0,.int .i64 0,.int .i64 0] 54:=by rw[hW0];exact (Blk.new_at _ _ _ _ _ (by simp) rfl).alloc _
  have j8:Blk W0 (w.heap.size+1+1+1) #[.int .i64 2,.int .i64 e,.int .i64 0] 54:=by rw[hW0];exact Blk.new_at _ _ _ _ _ (by simp) rfl
  have hbW:Below w.heap.size w W0:=by rw[hW0];exact qa (qa (qa (qa (qc w) _) _) _) _
  go_wp2_with fail;rw[←hW0];clear hW0;refine (HB.out _).mono ?_
  rintro e1 W1 ⟨rfl,hb1⟩
  replace j3:=j3.below hb1 j3.lt;replace j6:=j6.below hb1 j6.lt;replace j7:=j7.below hb1 j7.lt;replace j8:=j8.below hb1 j8.lt;replace hbW:=qd hbW hb1;clear hb1 HB;have c3:=j3.cell;have z3:=j3.free;have l3:=j3.lt;go_upto_region 14 with fail;clear c3 z3 l3;obtain⟨W,hW⟩:∃ W:World,W=thW W1 w.heap.size ⟨b,0,⟨s0,s1,s2,s3,s4,s5⟩,⟨s0,s1,s2,s3,s4,s5⟩,false⟩:=⟨_,rfl⟩;change Code.wp _ _ _ _ (thW W1 w.heap.size ⟨b,0,⟨s0,s1,s2,s3,s4,s5⟩,⟨s0,s1,s2,s3,s4,s5⟩,false⟩);rw[←hW];have k3:Blk W w.heap.size #[.int .i64 b,.int .i64 0,.int .i64 s0,.int .i64 s1,.int .i64 s2,.int .i64 s3,.int .i64 s4,.int .i64 s5,.int .i64 s0,.int .i64 s1,.int .i64 s2,.int .i64 s3,.int .i64 s4,.int .i64 s5,.bool false] 58:=by rw[hW];exact (mj (g:=⟨b,n,⟨a0,a1,a2,a3,a4,a5⟩,⟨s0,s1,s2,s3,s4,s5⟩,hl⟩) j3 ⟨b,0,⟨s0,s1,s2,s3,s4,s5⟩,⟨s0,s1,s2,s3,s4,s5⟩,false⟩)
  have k6:Blk W (w.heap.size+1) #[.int .i64 0,.int .i64 0,.int .i64 0,.int .i64 0,.int .i64 0,.int .i64 0,.int .i64 0,.int .i64 0,.int .i64 0,.int .i64 0,.int .i64 0,.int .i64 0,.int .i64 0,.int .i64 0,.bool false] 58:=by rw[hW];exact (yf j6 (by omega) _)
  have k7:Blk W (w.heap.size+1+1) #[.int .i64 0,.int .i64 0,.int .i64 0] 54:=by rw[hW];exact (yf j7 (by omega) _)
  have k8:Blk W (w.heap.size+1+1+1) #[.int .i64 2,.int .i64 e,.int .i64 0] 54:=by rw[hW];exact (yf j8 (by omega) _)
  have kb:Below w.heap.size w W:=by rw[hW];exact dd hbW (Nat.le_refl _) _
  clear hW j3 j6 j7 j8 hbW;have j3:=k3;have j6:=k6;have j7:=k7;have j8:=k8;have hbW:=kb;clear k3 k6 k7 k8 kb;have c3:=j3.cell;have c6:=j6.cell;have z6:=j6.free;have l6:=j6.lt;have c7:=j7.cell;have z7:=j7.free;have l7:=j7.lt;have c8:=j8.cell;have hres:=Lib.hid (zr (t6:=58) (t7:=54) j6 j7 (by omega) ⟨b,0,⟨s0,s1,s2,s3,s4,s5⟩,⟨s0,s1,s2,s3,s4,s5⟩,false⟩ ⟨2,e,0⟩)
  have hrb:=Lib.hid (xg hbW (b6:=w.heap.size+1) (b7:=w.heap.size+1+1) (by omega) (by omega) ⟨b,0,⟨s0,s1,s2,s3,s4,s5⟩,⟨s0,s1,s2,s3,s4,s5⟩,false⟩ ⟨2,e,0⟩)
  clear j3 j6 j7 j8 hbW;go_region
  all_goals
   go_wp2_with fail;change bodyPost _ _ _ _ _ (zy W (w.heap.size+1) (w.heap.size+1+1) ⟨b,0,⟨s0,s1,s2,s3,s4,s5⟩,⟨s0,s1,s2,s3,s4,s5⟩,false⟩ ⟨2,e,0⟩).drew;generalize zy W (w.heap.size+1) (w.heap.size+1+1) ⟨b,0,⟨s0,s1,s2,s3,s4,s5⟩,⟨s0,s1,s2,s3,s4,s5⟩,false⟩ ⟨2,e,0⟩=X at *;exact bodyPost_ret (qq _ _ 6 7 rfl rfl rfl (qi hres.out.1) (qi hres.out.2)) rfl ⟨rfl,qe hrb.out⟩
theorem qgk (b1:0≤b) (b2:b≤4096) (f0:(e==0)=false) (f1:(e==141)=false) (f2:(e==140)=false) (hf:(e==100)=true∨((e==100)=false∧(e==130)=true)):Calls Tryz.prog 214 #[.agg #[.int .i64 b,.int .i64 n,.int .i64 a0,.int .i64 a1,.int .i64 a2,.int .i64 a3,.int .i64 a4,.int .i64 a5,.int .i64 s0,.int .i64 s1,.int .i64 s2,.int .i64 s3,.int .i64 s4,.int .i64 s5,.bool hl],.int .i64 v,.int .i64 e] w fun e' w'=>e'=.returned (.tuple #[ThV.v ⟨(b+1),0,⟨s0,s1,s2,s3,s4,s5⟩,⟨s0,s1,s2,s3,s4,s5⟩,false⟩,ActV.val ⟨2,e,0⟩])∧Below w.heap.size w w':=by
 rcases hf with g1|⟨g1,g2⟩
 all_goals
  have HB:=Lib.hid (fun w=>show Calls Tryz.prog 212 #[.agg #[.int .i64 b,.int .i64 n,.int .i64 a0,.int .i64 a1,.int .i64 a2,.int .i64 a3,.int .i64 a4,.int .i64 a5,.int .i64 s0,.int .i64 s1,.int .i64 s2,.int .i64 s3,.int .i64 s4,.int .i64 s5,.bool hl]] w fun e w'=>e=.returned (.agg #[.int .i64 b,.int .i64 0,.int .i64 s0,.int .i64 s1,.int .i64 s2,.int .i64 s3,.int .i64 s4,.int .i64 s5,.int .i64 s0,.int .i64 s1,.int .i64 s2,.int .i64 s3,.int .i64 s4,.int .i64 s5,.bool false])∧Below w.heap.size w w' from cf ⟨b,n,⟨a0,a1,a2,a3,a4,a5⟩,⟨s0,s1,s2,s3,s4,s5⟩,hl⟩ w)
  go_enter Tryz.func214,Tryz.ntmps214;obtain⟨W0,hW0⟩:∃ W:World,W=((((w.alloc (.cells #[.int .i64 b,.int .i64 n,.int .i64 a0,.int .i64 a1,.int .i64 a2,.int .i64 a3,.int .i64 a4,.int .i64 a5,.int .i64 s0,.int .i64 s1,.int .i64 s2,.int .i64 s3,.int .i64 s4,.int .i64 s5,.bool hl] 58)).alloc (.cells #[.int .i64 0,.int .i64 0,.int .i64 0,.int .i64 0,.int .i64 0,.int .i64 0,.int .i64 0,.int .i64 0,.int .i64 0,.int .i64 0,.int .i64 0,.int .i64 0,.int .i64 0,.int .i64 0,.bool false] 58)).alloc (.cells #[.int .i64 0,.int .i64 0,.int .i64 0] 54)).alloc (.cells #[.int .i64 2,.int .i64 e,.int .i64 0] 54)):=⟨_,rfl⟩;have j3:Blk W0 w.heap.size #[.int .i64 b,.int .i64 n,.int .i64 a0,.int .i64 a1,.int .i64 a2,.int .i64 a3,.int .i64 a4,.int .i64 a5,.int .i64 s0,.int .i64 s1,.int .i64 s2,.int .i64 s3,.int .i64 s4,.int .i64 s5,.bool hl] 58:=by rw[hW0];exact (((Blk.new w _ _).alloc _).alloc _).alloc _
  have j6:Blk W0 (w.heap.size+1) #[.int .i64 0,.int .i64 0,.int .i64 0,.int .i64 0,.int .i64 0,.int .i64 0,.int .i64 0,.int .i64 0,.int .i64 0,.int .i64 0,.int .i64 0,.int .i64 0,.int .i64 0,.int .i64 0,.bool false] 58:=by rw[hW0];exact ((Blk.new_at _ _ _ _ _ (by simp) rfl).alloc _).alloc _
  have j7:Blk W0 (w.heap.size+1+1) #[.int .i64 0,.int .i64 0,.int .i64 0] 54:=by rw[hW0];exact (Blk.new_at _ _ _ _ _ (by simp) rfl).alloc _
  have j8:Blk W0 (w.heap.size+1+1+1) #[.int .i64 2,.int .i64 e,.int .i64 0] 54:=by rw[hW0];exact Blk.new_at _ _ _ _ _ (by simp) rfl
  have hbW:Below w.heap.size w W0:=by rw[hW0];exact qa (qa (qa (qa (qc w) _) _) _) _
  go_wp2_with fail;rw[←hW0];clear hW0;refine (HB.out _).mono ?_
  rintro e1 W1 ⟨rfl,hb1⟩
  replace j3:=j3.below hb1 j3.lt;replace j6:=j6.below hb1 j6.lt;replace j7:=j7.below hb1 j7.lt;replace j8:=j8.below hb1 j8.lt;replace hbW:=qd hbW hb1;clear hb1 HB;have c3:=j3.cell;have z3:=j3.free;have l3:=j3.lt;go_upto_region 14 with fail;clear c3 z3 l3;obtain⟨W,hW⟩:∃ W:World,W=(thW W1 w.heap.size ⟨b,0,⟨s0,s1,s2,s3,s4,s5⟩,⟨s0,s1,s2,s3,s4,s5⟩,false⟩).setCell ⟨w.heap.size,0,none⟩ (.int .i64 (b+1)):=⟨_,rfl⟩;change Code.wp _ _ _ _ ((thW W1 w.heap.size ⟨b,0,⟨s0,s1,s2,s3,s4,s5⟩,⟨s0,s1,s2,s3,s4,s5⟩,false⟩).setCell ⟨w.heap.size,0,none⟩ (.int .i64 (b+1)));rw[←hW];have k3:Blk W w.heap.size #[.int .i64 (b+1),.int .i64 0,.int .i64 s0,.int .i64 s1,.int .i64 s2,.int .i64 s3,.int .i64 s4,.int .i64 s5,.int .i64 s0,.int .i64 s1,.int .i64 s2,.int .i64 s3,.int .i64 s4,.int .i64 s5,.bool false] 58:=by rw[hW];exact (mj (g:=⟨b,n,⟨a0,a1,a2,a3,a4,a5⟩,⟨s0,s1,s2,s3,s4,s5⟩,hl⟩) j3 ⟨b,0,⟨s0,s1,s2,s3,s4,s5⟩,⟨s0,s1,s2,s3,s4,s5⟩,false⟩).set 0 (.int .i64 (b+1))
  have k6:Blk W (w.heap.size+1) #[.int .i64 0,.int .i64 0,.int .i64 0,.int .i64 0,.int .i64 0,.int .i64 0,.int .i64 0,.int .i64 0,.int .i64 0,.int .i64 0,.int .i64 0,.int .i64 0,.int .i64 0,.int .i64 0,.bool false] 58:=by rw[hW];exact (yf j6 (by omega) _).set_other (a:=⟨w.heap.size,0,none⟩) (by show _≠w.heap.size;omega) (.int .i64 (b+1))
  have k7:Blk W (w.heap.size+1+1) #[.int .i64 0,.int .i64 0,.int .i64 0] 54:=by rw[hW];exact (yf j7 (by omega) _).set_other (a:=⟨w.heap.size,0,none⟩) (by show _≠w.heap.size;omega) (.int .i64 (b+1))
  have k8:Blk W (w.heap.size+1+1+1) #[.int .i64 2,.int .i64 e,.int .i64 0] 54:=by rw[hW];exact (yf j8 (by omega) _).set_other (a:=⟨w.heap.size,0,none⟩) (by show _≠w.heap.size;omega) (.int .i64 (b+1))
  have kb:Below w.heap.size w W:=by rw[hW];exact qo (dd hbW (Nat.le_refl _) _) (Nat.le_refl _) _
  clear hW j3 j6 j7 j8 hbW;have j3:=k3;have j6:=k6;have j7:=k7;have j8:=k8;have hbW:=kb;clear k3 k6 k7 k8 kb;have c3:=j3.cell;have c6:=j6.cell;have z6:=j6.free;have l6:=j6.lt;have c7:=j7.cell;have z7:=j7.free;have l7:=j7.lt;have c8:=j8.cell;have hres:=Lib.hid (zr (t6:=58) (t7:=54) j6 j7 (by omega) ⟨(b+1),0,⟨s0,s1,s2,s3,s4,s5⟩,⟨s0,s1,s2,s3,s4,s5⟩,false⟩ ⟨2,e,0⟩)
  have hrb:=Lib.hid (xg hbW (b6:=w.heap.size+1) (b7:=w.heap.size+1+1) (by omega) (by omega) ⟨(b+1),0,⟨s0,s1,s2,s3,s4,s5⟩,⟨s0,s1,s2,s3,s4,s5⟩,false⟩ ⟨2,e,0⟩)
  clear j3 j6 j7 j8 hbW;go_region
  all_goals
   go_wp2_with fail;change bodyPost _ _ _ _ _ (zy W (w.heap.size+1) (w.heap.size+1+1) ⟨(b+1),0,⟨s0,s1,s2,s3,s4,s5⟩,⟨s0,s1,s2,s3,s4,s5⟩,false⟩ ⟨2,e,0⟩).drew;generalize zy W (w.heap.size+1) (w.heap.size+1+1) ⟨(b+1),0,⟨s0,s1,s2,s3,s4,s5⟩,⟨s0,s1,s2,s3,s4,s5⟩,false⟩ ⟨2,e,0⟩=X at *;exact bodyPost_ret (qq _ _ 6 7 rfl rfl rfl (qi hres.out.1) (qi hres.out.2)) rfl ⟨rfl,qe hrb.out⟩
end
theorem end_any (h:ThV)(v e:Int)(hn:0≤h.n∧h.n≤4096)(hb:0≤h.b∧h.b≤4096)(w:World) :
  Calls Tryz.prog 214 #[h.v,.int .i64 v,.int .i64 e] w fun e' w'=>e'=.returned (.tuple #[(h.ended e).v,(ky v e).val])∧Below w.heap.size w w':=by
 obtain⟨b,n,⟨a0,a1,a2,a3,a4,a5⟩,⟨s0,s1,s2,s3,s4,s5⟩,hl⟩:=h;obtain⟨n1,n2⟩:=hn;obtain⟨b1,b2⟩:=hb;simp only at n1 n2 b1 b2;by_cases e0:e=0
 ·subst e0
  have er:ThV.ended ⟨b,n,⟨a0,a1,a2,a3,a4,a5⟩,⟨s0,s1,s2,s3,s4,s5⟩,hl⟩ 0=⟨b,n+1,⟨a0,a1,a2,a3,a4,a5⟩,⟨s0,s1,s2,s3,s4,s5⟩,hl⟩:=by unfold ThV.ended;rfl
  have ea:ky v 0=⟨2,0,v⟩:=rfl;rw[er,ea];exact end_zero b n a0 a1 a2 a3 a4 a5 s0 s1 s2 s3 s4 s5 hl v w n1 n2
 have ea:ky v e=⟨2,e,0⟩:=by unfold ky;rw[if_neg e0]
 have f0:(e==0)=false:=by rw[beq_eq_false_iff_ne];exact e0
 rw[ea];by_cases e1:e=141
 ·have er:ThV.ended ⟨b,n,⟨a0,a1,a2,a3,a4,a5⟩,⟨s0,s1,s2,s3,s4,s5⟩,hl⟩ e=⟨b,0,⟨s0,s1,s2,s3,s4,s5⟩,⟨s0,s1,s2,s3,s4,s5⟩,false⟩:=by unfold ThV.ended;rw[if_pos (.inl e1)];rfl
  rw[er];exact qgi b n a0 a1 a2 a3 a4 a5 s0 s1 s2 s3 s4 s5 hl v e w f0 (.inl (by rw[beq_iff_eq];exact e1))
 have f1:(e==141)=false:=by rw[beq_eq_false_iff_ne];exact e1
 by_cases e2:e=140
 ·have er:ThV.ended ⟨b,n,⟨a0,a1,a2,a3,a4,a5⟩,⟨s0,s1,s2,s3,s4,s5⟩,hl⟩ e=⟨b,0,⟨s0,s1,s2,s3,s4,s5⟩,⟨s0,s1,s2,s3,s4,s5⟩,false⟩:=by unfold ThV.ended;rw[if_pos (.inr e2)];rfl
  rw[er];exact qgi b n a0 a1 a2 a3 a4 a5 s0 s1 s2 s3 s4 s5 hl v e w f0 (.inr ⟨f1,by rw[beq_iff_eq];exact e2⟩)
 have f2:(e==140)=false:=by rw[beq_eq_false_iff_ne];exact e2
 have e12:¬(e=141∨e=140):=fun h=>h.elim e1 e2
 by_cases e3:e=100
 ·have er:ThV.ended ⟨b,n,⟨a0,a1,a2,a3,a4,a5⟩,⟨s0,s1,s2,s3,s4,s5⟩,hl⟩ e=⟨b+1,0,⟨s0,s1,s2,s3,s4,s5⟩,⟨s0,s1,s2,s3,s4,s5⟩,false⟩:=by unfold ThV.ended;rw[if_neg e12,if_pos (.inl e3)];rfl
  rw[er];exact qgk b n a0 a1 a2 a3 a4 a5 s0 s1 s2 s3 s4 s5 hl v e w b1 b2 f0 f1 f2 (.inl (by rw[beq_iff_eq];exact e3))
 have f3:(e==100)=false:=by rw[beq_eq_false_iff_ne];exact e3
 by_cases e4:e=130
 ·have er:ThV.ended ⟨b,n,⟨a0,a1,a2,a3,a4,a5⟩,⟨s0,s1,s2,s3,s4,s5⟩,hl⟩ e=⟨b+1,0,⟨s0,s1,s2,s3,s4,s5⟩,⟨s0,s1,s2,s3,s4,s5⟩,false⟩:=by unfold ThV.ended;rw[if_neg e12,if_pos (.inr e4)];rfl
  rw[er];exact qgk b n a0 a1 a2 a3 a4 a5 s0 s1 s2 s3 s4 s5 hl v e w b1 b2 f0 f1 f2 (.inr ⟨f3,by rw[beq_iff_eq];exact e4⟩)
 have f4:(e==130)=false:=by rw[beq_eq_false_iff_ne];exact e4
 have er:ThV.ended ⟨b,n,⟨a0,a1,a2,a3,a4,a5⟩,⟨s0,s1,s2,s3,s4,s5⟩,hl⟩ e=⟨b,n+1,⟨a0,a1,a2,a3,a4,a5⟩,⟨s0,s1,s2,s3,s4,s5⟩,hl⟩:=by unfold ThV.ended;rw[if_neg e12,if_neg (fun h=>h.elim e3 e4)]
 rw[er];exact ql2 b n a0 a1 a2 a3 a4 a5 s0 s1 s2 s3 s4 s5 hl v e w n1 n2 f0 f1 f2 f3 f4
theorem uv (h:ThV) (v e:Int) (hn:0≤h.n∧h.n≤4096) (hb:0≤h.b∧h.b≤4096) (w:World) {b7:Nat} (j7:Blk w b7 h.cells 58) :
  Calls Tryz.prog 213 #[.int .i64 v,.int .i64 e,ptr b7] w fun e' w'=>e'=.returned (.tuple #[(h.ended e).v,(ky v e).val])∧Below w.heap.size w w':=by
 have HE:=Lib.hid (fun w=>end_any h v e hn hb w)
 generalize h.ended e=h' at *;generalize ky v e=a' at *;clear hn hb;obtain⟨b,n,⟨a0,a1,a2,a3,a4,a5⟩,⟨s0,s1,s2,s3,s4,s5⟩,hl⟩:=h;obtain⟨b',n',⟨r0,r1,r2,r3,r4,r5⟩,⟨p0,p1,p2,p3,p4,p5⟩,hl'⟩:=h';obtain⟨ak,ae,av⟩:=a';have c7:=j7.cell;unfold ThV.cells at c7;have l7:=j7.lt;have HE:=Lib.hid (fun w=>show Calls Tryz.prog 214 #[.agg #[.int .i64 b,.int .i64 n,.int .i64 a0,.int .i64 a1,.int .i64 a2,.int .i64 a3,.int .i64 a4,.int .i64 a5,.int .i64 s0,.int .i64 s1,.int .i64 s2,.int .i64 s3,.int .i64 s4,.int .i64 s5,.bool hl],.int .i64 v,.int .i64 e] w fun e' w'=>e'=.returned (.tuple #[.agg #[.int .i64 b',.int .i64 n',.int .i64 r0,.int .i64 r1,.int .i64 r2,.int .i64 r3,.int .i64 r4,.int .i64 r5,.int .i64 p0,.int .i64 p1,.int .i64 p2,.int .i64 p3,.int .i64 p4,.int .i64 p5,.bool hl'],.agg #[.int .i64 ak,.int .i64 ae,.int .i64 av]])∧Below w.heap.size w w' from HE.out w)
 clear j7;go_enter Tryz.func213,Tryz.ntmps213;go_wp2_with fail;refine (HE.out _).mono ?_
 rintro e1 w1 ⟨rfl,hb1⟩
 have j5:=(Blk.new_at w (ThV.cells ⟨0,0,⟨0,0,0,0,0,0⟩,⟨0,0,0,0,0,0⟩,false⟩) _ 58 w.heap.size rfl rfl).alloc (.cells #[.int .i64 0,.int .i64 0,.int .i64 0] 54);have j6:Blk _ (w.heap.size+1) zAct 54:=Blk.new_at (w.alloc (.cells (ThV.cells ⟨0,0,⟨0,0,0,0,0,0⟩,⟨0,0,0,0,0,0⟩,false⟩) 58)) #[.int .i64 0,.int .i64 0,.int .i64 0] zAct 54 (w.heap.size+1) (by simp) rfl
 replace j5:=j5.below hb1 j5.lt;replace j6:=j6.below hb1 j6.lt;have hb2:=qd (qa (qa (qc w) _) _) hb1;have c5:=j5.cell;unfold ThV.cells at c5;have z5:=j5.free;have l5:=j5.lt;have c6:=j6.cell;unfold zAct at c6;have z6:=j6.free;have l6:=j6.lt;have hres:=Lib.hid (zr j5 j6 (by omega) ⟨b',n',⟨r0,r1,r2,r3,r4,r5⟩,⟨p0,p1,p2,p3,p4,p5⟩,hl'⟩ ⟨ak,ae,av⟩)
 have hrb:=Lib.hid (xg hb2 (b6:=w.heap.size) (b7:=w.heap.size+1) (by omega) (by omega) ⟨b',n',⟨r0,r1,r2,r3,r4,r5⟩,⟨p0,p1,p2,p3,p4,p5⟩,hl'⟩ ⟨ak,ae,av⟩)
 clear hb1 hb2 j5 j6 c7 l7 HE;go_wp2_with fail;change bodyPost _ _ _ _ _ (zy w1 (w.heap.size) (w.heap.size+1) ⟨b',n',⟨r0,r1,r2,r3,r4,r5⟩,⟨p0,p1,p2,p3,p4,p5⟩,hl'⟩ ⟨ak,ae,av⟩);generalize zy w1 (w.heap.size) (w.heap.size+1) ⟨b',n',⟨r0,r1,r2,r3,r4,r5⟩,⟨p0,p1,p2,p3,p4,p5⟩,hl'⟩ ⟨ak,ae,av⟩=X at *;exact bodyPost_ret (qq _ _ 5 6 rfl rfl rfl hres.out.1 hres.out.2) rfl ⟨rfl,hrb.out⟩
end Go.Proofs.YteehgedabdchcaaGreat
