import Derived.Test.YteehgedabdchcaaGreatKat
import Derived.Test.YteehgedabdchcaaGreatKaz
set_option linter.all false
set_option maxRecDepth 1000000
set_option maxHeartbeats 16000000
namespace Go.Proofs.YteehgedabdchcaaGreat
open Go.RowKit Hp
attribute [local go_sem ↓] Go.wp_at_zero Go.wp_at_succ
def DdsAt (w:World)(v:Value)(l:List DeedV):Prop:=
 ∃ a c,v=.slice a l.length c∧∀ m d,l[m]?=some d→∃ b off,a=some ⟨b,off,none⟩∧w.cell? ⟨b,off+m*5,none⟩=some (.int .i64 d.k)∧w.cell? ⟨b,off+m*5+1,none⟩=some (.int .i64 d.A)∧w.cell? ⟨b,off+m*5+2,none⟩=some (.int .i64 d.B)∧w.cell? ⟨b,off+m*5+3,none⟩=some (.int .i64 d.i)∧w.cell? ⟨b,off+m*5+4,none⟩=some (.int .i64 d.n)
def BlksAt (w:World)(v:Value)(l:List (List DeedV)):Prop:=
 ∃ a c,v=.slice a l.length c∧∀ j ds,l[j]?=some ds→∃ b off,a=some ⟨b,off,none⟩∧∃ vd,w.cell? ⟨b,off+j,none⟩=some vd∧DdsAt w vd ds
theorem qbg {w:World}{b k:Nat}{v:Value}(h:w.cell? ⟨b,k,none⟩=some v):b<w.heap.size:=by
 unfold World.cell? at h;split at h
 ·rename_i h';exact (Array.getElem?_eq_some_iff.1 h').1
 ·cases h
theorem cell_below {w w':World}{b k:Nat}{v:Value}(h:w.cell? ⟨b,k,none⟩=some v)(hb:Below w.heap.size w w'):w'.cell? ⟨b,k,none⟩=some v:=
 (hb.cell (p:=⟨b,k,none⟩) (qbg h)).trans h
theorem DdsAt.below {w w':World}{v:Value}{l:List DeedV}(h:DdsAt w v l)(hb:Below w.heap.size w w'):DdsAt w' v l:=by
 obtain⟨a,c,rfl,h⟩:=h;refine⟨a,c,rfl,fun m d hd=>?_⟩
 obtain⟨b,off,ha,h0,h1,h2,h3,h4⟩:=h m d hd;exact⟨b,off,ha,cell_below h0 hb,cell_below h1 hb,cell_below h2 hb,cell_below h3 hb,cell_below h4 hb⟩
theorem BlksAt.below {w w':World}{v:Value}{l:List (List DeedV)}(h:BlksAt w v l)(hb:Below w.heap.size w w'):BlksAt w' v l:=by
 obtain⟨a,c,rfl,h⟩:=h;refine⟨a,c,rfl,fun j ds hj=>?_⟩
 obtain⟨b,off,ha,vd,h0,h1⟩:=h j ds hj;exact⟨b,off,ha,vd,cell_below h0 hb,h1.below hb⟩
def DeedV.D (d:DeedV):Pg.D:=⟨d.k,d.A,d.B,d.i,d.n⟩
section
variable {w w' : World} {o o' : Own} {y : SLay} {S : Stt} {i : Nat}
theorem qix (hb hn a0 a1 a2 a3 a4 a5 s0 s1 s2 s3 s4 s5:Int) (hl:Bool) (vs:Value) (a:Option Addr) (n c:Nat) (iv:Int) (hd:(n:Int)≤hb) (w:World) :
  Calls Tryz.prog 93 #[vs,.int .i64 iv,.slice a n c,.agg #[.int .i64 hb,.int .i64 hn,.int .i64 a0,.int .i64 a1,.int .i64 a2,.int .i64 a3,.int .i64 a4,.int .i64 a5,.int .i64 s0,.int .i64 s1,.int .i64 s2,.int .i64 s3,.int .i64 s4,.int .i64 s5,.bool hl]] w fun e' w'=>e'=.returned (.tuple #[ThV.v ⟨hb,hn,⟨a0,a1,a2,a3,a4,a5⟩,⟨s0,s1,s2,s3,s4,s5⟩,hl⟩,ActV.val ⟨0,0,0⟩])∧Below w.heap.size w w':=by
 have HD:=Lib.hid (fun W=>by have:=uq ⟨hb,hn,⟨a0,a1,a2,a3,a4,a5⟩,⟨s0,s1,s2,s3,s4,s5⟩,hl⟩ a n c W;rw[show (decide ((⟨hb,hn,⟨a0,a1,a2,a3,a4,a5⟩,⟨s0,s1,s2,s3,s4,s5⟩,hl⟩:ThV).b<0)||decide ((n:Int)≤(⟨hb,hn,⟨a0,a1,a2,a3,a4,a5⟩,⟨s0,s1,s2,s3,s4,s5⟩,hl⟩:ThV).b))=true from by simp only[Bool.or_eq_true,decide_eq_true_eq];exact .inr hd]at this;exact this)
 have HD:=Lib.hid (fun W=>show Calls Tryz.prog 96 #[.slice a n c,.agg #[.int .i64 hb,.int .i64 hn,.int .i64 a0,.int .i64 a1,.int .i64 a2,.int .i64 a3,.int .i64 a4,.int .i64 a5,.int .i64 s0,.int .i64 s1,.int .i64 s2,.int .i64 s3,.int .i64 s4,.int .i64 s5,.bool hl]] W fun e w'=>e=.returned (.bool true)∧Below W.heap.size W w' from HD.out W)
 clear hd;obtain⟨W,hW⟩:∃ W:World,W=((w.alloc (.cells #[.int .i64 hb,.int .i64 hn,.int .i64 a0,.int .i64 a1,.int .i64 a2,.int .i64 a3,.int .i64 a4,.int .i64 a5,.int .i64 s0,.int .i64 s1,.int .i64 s2,.int .i64 s3,.int .i64 s4,.int .i64 s5,.bool hl] 58)).alloc (.cells #[.int .i64 0,.int .i64 0,.int .i64 0,.int .i64 0,.int .i64 0,.int .i64 0,.int .i64 0,.int .i64 0,.int .i64 0,.int .i64 0,.int .i64 0,.int .i64 0,.int .i64 0,.int .i64 0,.bool false] 58)).alloc (.cells #[.int .i64 0,.int .i64 0,.int .i64 0] 54):=⟨_,rfl⟩;have hbW:Below w.heap.size w W:=by rw[hW];exact qa (qa (qa (qc w) _) _) _
 have k7:Blk W w.heap.size #[.int .i64 hb,.int .i64 hn,.int .i64 a0,.int .i64 a1,.int .i64 a2,.int .i64 a3,.int .i64 a4,.int .i64 a5,.int .i64 s0,.int .i64 s1,.int .i64 s2,.int .i64 s3,.int .i64 s4,.int .i64 s5,.bool hl] 58:=by rw[hW];exact ((Blk.new w _ _).alloc _).alloc _
 have k8:Blk W (w.heap.size+1) #[.int .i64 0,.int .i64 0,.int .i64 0,.int .i64 0,.int .i64 0,.int .i64 0,.int .i64 0,.int .i64 0,.int .i64 0,.int .i64 0,.int .i64 0,.int .i64 0,.int .i64 0,.int .i64 0,.bool false] 58:=by rw[hW];exact (Blk.new_at _ _ _ _ _ (by simp) rfl).alloc _
 have k9:Blk W (w.heap.size+1+1) #[.int .i64 0,.int .i64 0,.int .i64 0] 54:=by rw[hW];exact Blk.new_at _ _ _ _ _ (by simp) rfl
 go_enter Tryz.func93,Tryz.ntmps93;go_wp2_with fail;rw[←hW];clear hW;refine (HD.out _).mono ?_
 rintro e1 w1 ⟨rfl,hb1⟩
 replace k7:=k7.below hb1 k7.lt;replace k8:=k8.below hb1 k8.lt;replace k9:=k9.below hb1 k9.lt;replace hbW:=qd hbW hb1;have c7:=k7.cell;have c8:=k8.cell;have z8:=k8.free;have l8:=k8.lt;have c9:=k9.cell;have z9:=k9.free;have l9:=k9.lt;have hres:=Lib.hid (zr k8 k9 (by omega) ⟨hb,hn,⟨a0,a1,a2,a3,a4,a5⟩,⟨s0,s1,s2,s3,s4,s5⟩,hl⟩ ⟨0,0,0⟩)
 have hrb:=Lib.hid (xg hbW (b6:=(w.heap.size+1)) (b7:=(w.heap.size+1+1)) (by omega) (by omega) ⟨hb,hn,⟨a0,a1,a2,a3,a4,a5⟩,⟨s0,s1,s2,s3,s4,s5⟩,hl⟩ ⟨0,0,0⟩)
 clear k7 k8 k9 hbW hb1 HD;go_wp2_with fail;change bodyPost _ _ _ _ _ (zy w1 (w.heap.size+1) (w.heap.size+1+1) ⟨hb,hn,⟨a0,a1,a2,a3,a4,a5⟩,⟨s0,s1,s2,s3,s4,s5⟩,hl⟩ ⟨0,0,0⟩);generalize zy w1 (w.heap.size+1) (w.heap.size+1+1) ⟨hb,hn,⟨a0,a1,a2,a3,a4,a5⟩,⟨s0,s1,s2,s3,s4,s5⟩,hl⟩ ⟨0,0,0⟩=X at *;exact bodyPost_ret (qq _ _ 8 9 rfl rfl rfl hres.out.1 hres.out.2) rfl ⟨rfl,hrb.out⟩
theorem qa7 (hS:StIn w o y S) (hb hn a0 a1 a2 a3 a4 a5 s0 s1 s2 s3 s4 s5:Int) (vb:Value) (l:List (List DeedV)) (hB:BlksAt w vb l) (hb1:0≤hb) (hb2:hb<(l.length:Int)) (hn1:0≤hn)
  (S':Stt) (h':ThV) (a':ActV)
  (call:∀ X o2,StIn X o2 y S→Calls Tryz.prog 152 #[ptr y.sb,.int .i64 i,.int .i64 l.length,.agg #[.int .i64 hb,.int .i64 hn,.int .i64 a0,.int .i64 a1,.int .i64 a2,.int .i64 a3,.int .i64 a4,.int .i64 a5,.int .i64 s0,.int .i64 s1,.int .i64 s2,.int .i64 s3,.int .i64 s4,.int .i64 s5,.bool false]] X fun e' w'=>e'=.returned (.tuple #[h'.v,a'.val])∧Left y S' o2 X w') :
  Calls Tryz.prog 93 #[ptr y.sb,.int .i64 i,vb,.agg #[.int .i64 hb,.int .i64 hn,.int .i64 a0,.int .i64 a1,.int .i64 a2,.int .i64 a3,.int .i64 a4,.int .i64 a5,.int .i64 s0,.int .i64 s1,.int .i64 s2,.int .i64 s3,.int .i64 s4,.int .i64 s5,.bool false]] w fun e' w'=>e'=.returned (.tuple #[h'.v,a'.val])∧Left y S' o w w':=by
 obtain⟨o1,ho1⟩:∃ o1,o1=ext o w.heap.size (y.l.id+1,0):=⟨_,rfl⟩;have h1:=hS.retag (o':=o1) fun b hb=>by rw[ho1];exact qj hb
 have hS0:Stp (qh y) o o1 w w:=by rw[ho1];exact (Stp.refl _ o w).ext _ _ (Nat.le_refl _)
 have hbx:∀ b,w.heap.size≤b→bxT y (o1 b):=fun b hb=>by rw[ho1];exact qp hb
 clear ho1 hS;obtain⟨a,c,rfl,hBl⟩:=hB;have HD:=Lib.hid (fun W=>by have:=uq ⟨hb,hn,⟨a0,a1,a2,a3,a4,a5⟩,⟨s0,s1,s2,s3,s4,s5⟩,false⟩ a l.length c W;rw[show (decide ((⟨hb,hn,⟨a0,a1,a2,a3,a4,a5⟩,⟨s0,s1,s2,s3,s4,s5⟩,false⟩:ThV).b<0)||decide ((l.length:Int)≤(⟨hb,hn,⟨a0,a1,a2,a3,a4,a5⟩,⟨s0,s1,s2,s3,s4,s5⟩,false⟩:ThV).b))=false from by simp only[Bool.or_eq_false_iff,decide_eq_false_iff_not];omega]at this;exact this)
 have HD:=Lib.hid (fun W=>show Calls Tryz.prog 96 #[.slice a l.length c,.agg #[.int .i64 hb,.int .i64 hn,.int .i64 a0,.int .i64 a1,.int .i64 a2,.int .i64 a3,.int .i64 a4,.int .i64 a5,.int .i64 s0,.int .i64 s1,.int .i64 s2,.int .i64 s3,.int .i64 s4,.int .i64 s5,.bool false]] W fun e w'=>e=.returned (.bool false)∧Below W.heap.size W w' from HD.out W)
 obtain⟨b',n',⟨r0,r1,r2,r3,r4,r5⟩,⟨p0,p1,p2,p3,p4,p5⟩,hl'⟩:=h';obtain⟨ak,ae,av⟩:=a';have HC:=Lib.hid (fun X o2 (hx:StIn X o2 y S)=>show Calls Tryz.prog 152 #[ptr y.sb,.int .i64 i,.int .i64 l.length,.agg #[.int .i64 hb,.int .i64 hn,.int .i64 a0,.int .i64 a1,.int .i64 a2,.int .i64 a3,.int .i64 a4,.int .i64 a5,.int .i64 s0,.int .i64 s1,.int .i64 s2,.int .i64 s3,.int .i64 s4,.int .i64 s5,.bool false]] X fun e' w'=>e'=.returned (.tuple #[.agg #[.int .i64 b',.int .i64 n',.int .i64 r0,.int .i64 r1,.int .i64 r2,.int .i64 r3,.int .i64 r4,.int .i64 r5,.int .i64 p0,.int .i64 p1,.int .i64 p2,.int .i64 p3,.int .i64 p4,.int .i64 p5,.bool hl'],.agg #[.int .i64 ak,.int .i64 ae,.int .i64 av]])∧Left y S' o2 X w' from call X o2 hx)
 clear call;obtain⟨W,hW⟩:∃ W:World,W=((w.alloc (.cells #[.int .i64 hb,.int .i64 hn,.int .i64 a0,.int .i64 a1,.int .i64 a2,.int .i64 a3,.int .i64 a4,.int .i64 a5,.int .i64 s0,.int .i64 s1,.int .i64 s2,.int .i64 s3,.int .i64 s4,.int .i64 s5,.bool false] 58)).alloc (.cells #[.int .i64 0,.int .i64 0,.int .i64 0,.int .i64 0,.int .i64 0,.int .i64 0,.int .i64 0,.int .i64 0,.int .i64 0,.int .i64 0,.int .i64 0,.int .i64 0,.int .i64 0,.int .i64 0,.bool false] 58)).alloc (.cells #[.int .i64 0,.int .i64 0,.int .i64 0] 54):=⟨_,rfl⟩;have hbW:Below w.heap.size w W:=by rw[hW];exact qa (qa (qa (qc w) _) _) _
 have k7:Blk W w.heap.size #[.int .i64 hb,.int .i64 hn,.int .i64 a0,.int .i64 a1,.int .i64 a2,.int .i64 a3,.int .i64 a4,.int .i64 a5,.int .i64 s0,.int .i64 s1,.int .i64 s2,.int .i64 s3,.int .i64 s4,.int .i64 s5,.bool false] 58:=by rw[hW];exact ((Blk.new w _ _).alloc _).alloc _
 have k8:Blk W (w.heap.size+1) #[.int .i64 0,.int .i64 0,.int .i64 0,.int .i64 0,.int .i64 0,.int .i64 0,.int .i64 0,.int .i64 0,.int .i64 0,.int .i64 0,.int .i64 0,.int .i64 0,.int .i64 0,.int .i64 0,.bool false] 58:=by rw[hW];exact (Blk.new_at _ _ _ _ _ (by simp) rfl).alloc _
 have k9:Blk W (w.heap.size+1+1) #[.int .i64 0,.int .i64 0,.int .i64 0] 54:=by rw[hW];exact Blk.new_at _ _ _ _ _ (by simp) rfl
 have hsW:Stp (qh y) o o1 w W:=hS0.trans (Stp.of_below hbW);have hnn:(hn:Int)≥0:=hn1;go_enter Tryz.func93,Tryz.ntmps93;go_wp2_with fail;rw[←hW];clear hW;refine (HD.out _).mono ?_
 rintro e1 w1 ⟨rfl,hb1'⟩
 replace k7:=k7.below hb1' k7.lt;replace k8:=k8.below hb1' k8.lt;replace k9:=k9.below hb1' k9.lt;replace hbW:=qd hbW hb1';replace hsW:=hsW.trans (Stp.of_below hb1');have hSW:=h1.below hbW;have c7:=k7.cell;clear hb1' HD;obtain⟨V,hV⟩:∃ V,V=w1:=⟨_,rfl⟩;rw[←hV]at k7 k8 k9 hbW hsW hSW c7 ⊢;clear hV;go_wp2_with fail;refine (HC.out _ _ hSW).mono ?_
 rintro e2 w2 ⟨rfl,hL⟩
 obtain⟨o2,hS2,hI2,hs2⟩:=hL;have nt:∀ b,w.heap.size≤b→¬qh y (o1 b):=fun b q1=>uh (hbx b q1)
 have tg:∀ b,w.heap.size≤b→b<V.heap.size→bxT y (o2 b):=fun b q1 q2=>by have:=hbx b q1;rw[←hs2.tags b q2]at this;exact this
 have t8:=tg (w.heap.size+1) (by omega) k8.lt
 have t9:=tg (w.heap.size+1+1) (by omega) k9.lt
 replace k8:=k8.stp hs2 (nt _ (by omega))
 replace k9:=k9.stp hs2 (nt _ (by omega))
 have hs5:=hsW.trans hs2;have c8:=k8.cell;have z8:=k8.free;have l8:=k8.lt;have c9:=k9.cell;have z9:=k9.free;have l9:=k9.lt;have hres:=Lib.hid (zr k8 k9 (by omega) ⟨b',n',⟨r0,r1,r2,r3,r4,r5⟩,⟨p0,p1,p2,p3,p4,p5⟩,hl'⟩ ⟨ak,ae,av⟩)
 have hrs:=Lib.hid (ku hs5 (b6:=(w.heap.size+1)) (b7:=(w.heap.size+1+1)) (by omega) (by omega) ⟨b',n',⟨r0,r1,r2,r3,r4,r5⟩,⟨p0,p1,p2,p3,p4,p5⟩,hl'⟩ ⟨ak,ae,av⟩)
 have hrS:=Lib.hid (hS2.bx (xd w2 (w.heap.size+1) (w.heap.size+1+1) (o:=o2) t8 t9 ⟨b',n',⟨r0,r1,r2,r3,r4,r5⟩,⟨p0,p1,p2,p3,p4,p5⟩,hl'⟩ ⟨ak,ae,av⟩));have HI2:=Lib.hid hI2;clear k7 k8 k9 hs5 hs2 hsW hSW hS2 hI2 nt tg hbx h1 hS0 hBl HC c7;go_wp2_with fail;change bodyPost _ _ _ _ _ (zy w2 (w.heap.size+1) (w.heap.size+1+1) ⟨b',n',⟨r0,r1,r2,r3,r4,r5⟩,⟨p0,p1,p2,p3,p4,p5⟩,hl'⟩ ⟨ak,ae,av⟩);generalize zy w2 (w.heap.size+1) (w.heap.size+1+1) ⟨b',n',⟨r0,r1,r2,r3,r4,r5⟩,⟨p0,p1,p2,p3,p4,p5⟩,hl'⟩ ⟨ak,ae,av⟩=X at *;exact bodyPost_ret (qq _ _ 8 9 rfl rfl rfl hres.out.1 hres.out.2) rfl ⟨rfl,o2,hrS.out,HI2.out,hrs.out⟩
theorem sj (hS:StIn w o y S) (hb hn a0 a1 a2 a3 a4 a5 s0 s1 s2 s3 s4 s5:Int) (vb:Value) (l:List (List DeedV)) (hB:BlksAt w vb l) (hb1:0≤hb) (hb2:hb<(l.length:Int)) (hn1:0≤hn) (hnd:∀ ds,l[hb.toNat]?=some ds→(ds.length:Int)≤hn)
  (S':Stt) (h':ThV) (a':ActV)
  (call:∀ X o2,StIn X o2 y S→Calls Tryz.prog 153 #[ptr y.sb,.int .i64 i,.agg #[.int .i64 hb,.int .i64 hn,.int .i64 a0,.int .i64 a1,.int .i64 a2,.int .i64 a3,.int .i64 a4,.int .i64 a5,.int .i64 s0,.int .i64 s1,.int .i64 s2,.int .i64 s3,.int .i64 s4,.int .i64 s5,.bool true]] X fun e' w'=>e'=.returned (.tuple #[h'.v,a'.val])∧Left y S' o2 X w') :
  Calls Tryz.prog 93 #[ptr y.sb,.int .i64 i,vb,.agg #[.int .i64 hb,.int .i64 hn,.int .i64 a0,.int .i64 a1,.int .i64 a2,.int .i64 a3,.int .i64 a4,.int .i64 a5,.int .i64 s0,.int .i64 s1,.int .i64 s2,.int .i64 s3,.int .i64 s4,.int .i64 s5,.bool true]] w fun e' w'=>e'=.returned (.tuple #[h'.v,a'.val])∧Left y S' o w w':=by
 obtain⟨o1,ho1⟩:∃ o1,o1=ext o w.heap.size (y.l.id+1,0):=⟨_,rfl⟩;have h1:=hS.retag (o':=o1) fun b hb=>by rw[ho1];exact qj hb
 have hS0:Stp (qh y) o o1 w w:=by rw[ho1];exact (Stp.refl _ o w).ext _ _ (Nat.le_refl _)
 have hbx:∀ b,w.heap.size≤b→bxT y (o1 b):=fun b hb=>by rw[ho1];exact qp hb
 clear ho1 hS;obtain⟨a,c,rfl,hBl⟩:=hB;have HD:=Lib.hid (fun W=>by have:=uq ⟨hb,hn,⟨a0,a1,a2,a3,a4,a5⟩,⟨s0,s1,s2,s3,s4,s5⟩,true⟩ a l.length c W;rw[show (decide ((⟨hb,hn,⟨a0,a1,a2,a3,a4,a5⟩,⟨s0,s1,s2,s3,s4,s5⟩,true⟩:ThV).b<0)||decide ((l.length:Int)≤(⟨hb,hn,⟨a0,a1,a2,a3,a4,a5⟩,⟨s0,s1,s2,s3,s4,s5⟩,true⟩:ThV).b))=false from by simp only[Bool.or_eq_false_iff,decide_eq_false_iff_not];omega]at this;exact this)
 have HD:=Lib.hid (fun W=>show Calls Tryz.prog 96 #[.slice a l.length c,.agg #[.int .i64 hb,.int .i64 hn,.int .i64 a0,.int .i64 a1,.int .i64 a2,.int .i64 a3,.int .i64 a4,.int .i64 a5,.int .i64 s0,.int .i64 s1,.int .i64 s2,.int .i64 s3,.int .i64 s4,.int .i64 s5,.bool true]] W fun e w'=>e=.returned (.bool false)∧Below W.heap.size W w' from HD.out W)
 obtain⟨b',n',⟨r0,r1,r2,r3,r4,r5⟩,⟨p0,p1,p2,p3,p4,p5⟩,hl'⟩:=h';obtain⟨ak,ae,av⟩:=a';have HC:=Lib.hid (fun X o2 (hx:StIn X o2 y S)=>show Calls Tryz.prog 153 #[ptr y.sb,.int .i64 i,.agg #[.int .i64 hb,.int .i64 hn,.int .i64 a0,.int .i64 a1,.int .i64 a2,.int .i64 a3,.int .i64 a4,.int .i64 a5,.int .i64 s0,.int .i64 s1,.int .i64 s2,.int .i64 s3,.int .i64 s4,.int .i64 s5,.bool true]] X fun e' w'=>e'=.returned (.tuple #[.agg #[.int .i64 b',.int .i64 n',.int .i64 r0,.int .i64 r1,.int .i64 r2,.int .i64 r3,.int .i64 r4,.int .i64 r5,.int .i64 p0,.int .i64 p1,.int .i64 p2,.int .i64 p3,.int .i64 p4,.int .i64 p5,.bool hl'],.agg #[.int .i64 ak,.int .i64 ae,.int .i64 av]])∧Left y S' o2 X w' from call X o2 hx)
 clear call;obtain⟨W,hW⟩:∃ W:World,W=((w.alloc (.cells #[.int .i64 hb,.int .i64 hn,.int .i64 a0,.int .i64 a1,.int .i64 a2,.int .i64 a3,.int .i64 a4,.int .i64 a5,.int .i64 s0,.int .i64 s1,.int .i64 s2,.int .i64 s3,.int .i64 s4,.int .i64 s5,.bool true] 58)).alloc (.cells #[.int .i64 0,.int .i64 0,.int .i64 0,.int .i64 0,.int .i64 0,.int .i64 0,.int .i64 0,.int .i64 0,.int .i64 0,.int .i64 0,.int .i64 0,.int .i64 0,.int .i64 0,.int .i64 0,.bool false] 58)).alloc (.cells #[.int .i64 0,.int .i64 0,.int .i64 0] 54):=⟨_,rfl⟩;have hbW:Below w.heap.size w W:=by rw[hW];exact qa (qa (qa (qc w) _) _) _
 have k7:Blk W w.heap.size #[.int .i64 hb,.int .i64 hn,.int .i64 a0,.int .i64 a1,.int .i64 a2,.int .i64 a3,.int .i64 a4,.int .i64 a5,.int .i64 s0,.int .i64 s1,.int .i64 s2,.int .i64 s3,.int .i64 s4,.int .i64 s5,.bool true] 58:=by rw[hW];exact ((Blk.new w _ _).alloc _).alloc _
 have k8:Blk W (w.heap.size+1) #[.int .i64 0,.int .i64 0,.int .i64 0,.int .i64 0,.int .i64 0,.int .i64 0,.int .i64 0,.int .i64 0,.int .i64 0,.int .i64 0,.int .i64 0,.int .i64 0,.int .i64 0,.int .i64 0,.bool false] 58:=by rw[hW];exact (Blk.new_at _ _ _ _ _ (by simp) rfl).alloc _
 have k9:Blk W (w.heap.size+1+1) #[.int .i64 0,.int .i64 0,.int .i64 0] 54:=by rw[hW];exact Blk.new_at _ _ _ _ _ (by simp) rfl
 have hsW:Stp (qh y) o o1 w W:=hS0.trans (Stp.of_below hbW);have hnn:(hn:Int)≥0:=hn1;go_enter Tryz.func93,Tryz.ntmps93;go_wp2_with fail;rw[←hW];clear hW;refine (HD.out _).mono ?_
 rintro e1 w1 ⟨rfl,hb1'⟩
 replace k7:=k7.below hb1' k7.lt;replace k8:=k8.below hb1' k8.lt;replace k9:=k9.below hb1' k9.lt;replace hbW:=qd hbW hb1';replace hsW:=hsW.trans (Stp.of_below hb1');have hSW:=h1.below hbW;have c7:=k7.cell;clear hb1' HD;obtain⟨j,rfl⟩:∃ j:Nat,hb=j:=⟨hb.toNat,by omega⟩
 obtain⟨ds,hds⟩:∃ ds,l[j]?=some ds:=⟨l[j]'(by omega),List.getElem?_eq_getElem _⟩
 obtain⟨bb,off,rfl,vd,hcd,hdd⟩:=hBl j ds hds;obtain⟨ad,cd,rfl,hdc⟩:=hdd;have hcd':=cell_below hcd hbW;have jL:(j:Int)<(l.length:Int):=hb2;have hle:(ds.length:Int)≤hn:=hnd ds (by rw[Int.toNat_natCast];exact hds)
 clear hnd hdc;obtain⟨V,hV⟩:∃ V,V=w1:=⟨_,rfl⟩;rw[←hV]at k7 k8 k9 hbW hsW hSW c7 hcd' ⊢;clear hV;go_wp2_with fail;refine (HC.out _ _ hSW).mono ?_
 rintro e2 w2 ⟨rfl,hL⟩
 clear hcd hds hcd';obtain⟨o2,hS2,hI2,hs2⟩:=hL;have nt:∀ b,w.heap.size≤b→¬qh y (o1 b):=fun b q1=>uh (hbx b q1)
 have tg:∀ b,w.heap.size≤b→b<V.heap.size→bxT y (o2 b):=fun b q1 q2=>by have:=hbx b q1;rw[←hs2.tags b q2]at this;exact this
 have t8:=tg (w.heap.size+1) (by omega) k8.lt
 have t9:=tg (w.heap.size+1+1) (by omega) k9.lt
 replace k8:=k8.stp hs2 (nt _ (by omega))
 replace k9:=k9.stp hs2 (nt _ (by omega))
 have hs5:=hsW.trans hs2;have c8:=k8.cell;have z8:=k8.free;have l8:=k8.lt;have c9:=k9.cell;have z9:=k9.free;have l9:=k9.lt;have hres:=Lib.hid (zr k8 k9 (by omega) ⟨b',n',⟨r0,r1,r2,r3,r4,r5⟩,⟨p0,p1,p2,p3,p4,p5⟩,hl'⟩ ⟨ak,ae,av⟩)
 have hrs:=Lib.hid (ku hs5 (b6:=(w.heap.size+1)) (b7:=(w.heap.size+1+1)) (by omega) (by omega) ⟨b',n',⟨r0,r1,r2,r3,r4,r5⟩,⟨p0,p1,p2,p3,p4,p5⟩,hl'⟩ ⟨ak,ae,av⟩)
 have hrS:=Lib.hid (hS2.bx (xd w2 (w.heap.size+1) (w.heap.size+1+1) (o:=o2) t8 t9 ⟨b',n',⟨r0,r1,r2,r3,r4,r5⟩,⟨p0,p1,p2,p3,p4,p5⟩,hl'⟩ ⟨ak,ae,av⟩));have HI2:=Lib.hid hI2;clear k7 k8 k9 hs5 hs2 hsW hSW hS2 hI2 nt tg hbx h1 hS0 hBl HC c7;go_wp2_with fail;change bodyPost _ _ _ _ _ (zy w2 (w.heap.size+1) (w.heap.size+1+1) ⟨b',n',⟨r0,r1,r2,r3,r4,r5⟩,⟨p0,p1,p2,p3,p4,p5⟩,hl'⟩ ⟨ak,ae,av⟩);generalize zy w2 (w.heap.size+1) (w.heap.size+1+1) ⟨b',n',⟨r0,r1,r2,r3,r4,r5⟩,⟨p0,p1,p2,p3,p4,p5⟩,hl'⟩ ⟨ak,ae,av⟩=X at *;exact bodyPost_ret (qq _ _ 8 9 rfl rfl rfl hres.out.1 hres.out.2) rfl ⟨rfl,o2,hrS.out,HI2.out,hrs.out⟩
theorem qjv (hS:StIn w o y S) (hb hn a0 a1 a2 a3 a4 a5 s0 s1 s2 s3 s4 s5:Int) (vb:Value) (l:List (List DeedV)) (hB:BlksAt w vb l) (hb1:0≤hb) (hb2:hb<(l.length:Int)) (hn1:0≤hn) (d:DeedV) (hnd:∃ ds,l[hb.toNat]?=some ds∧ds[hn.toNat]?=some d) (hrt:Pg.right d.D=true)
  (S':Stt) (h':ThV) (a':ActV)
  (call:∀ X o2,StIn X o2 y S→Calls Tryz.prog 154 #[ptr y.sb,.int .i64 i,d.v,.agg #[.int .i64 hb,.int .i64 hn,.int .i64 a0,.int .i64 a1,.int .i64 a2,.int .i64 a3,.int .i64 a4,.int .i64 a5,.int .i64 s0,.int .i64 s1,.int .i64 s2,.int .i64 s3,.int .i64 s4,.int .i64 s5,.bool true]] X fun e' w'=>e'=.returned (.tuple #[h'.v,a'.val])∧Left y S' o2 X w') :
  Calls Tryz.prog 93 #[ptr y.sb,.int .i64 i,vb,.agg #[.int .i64 hb,.int .i64 hn,.int .i64 a0,.int .i64 a1,.int .i64 a2,.int .i64 a3,.int .i64 a4,.int .i64 a5,.int .i64 s0,.int .i64 s1,.int .i64 s2,.int .i64 s3,.int .i64 s4,.int .i64 s5,.bool true]] w fun e' w'=>e'=.returned (.tuple #[h'.v,a'.val])∧Left y S' o w w':=by
 obtain⟨o1,ho1⟩:∃ o1,o1=ext o w.heap.size (y.l.id+1,0):=⟨_,rfl⟩;have h1:=hS.retag (o':=o1) fun b hb=>by rw[ho1];exact qj hb
 have hS0:Stp (qh y) o o1 w w:=by rw[ho1];exact (Stp.refl _ o w).ext _ _ (Nat.le_refl _)
 have hbx:∀ b,w.heap.size≤b→bxT y (o1 b):=fun b hb=>by rw[ho1];exact qp hb
 clear ho1 hS;obtain⟨a,c,rfl,hBl⟩:=hB;have HD:=Lib.hid (fun W=>by have:=uq ⟨hb,hn,⟨a0,a1,a2,a3,a4,a5⟩,⟨s0,s1,s2,s3,s4,s5⟩,true⟩ a l.length c W;rw[show (decide ((⟨hb,hn,⟨a0,a1,a2,a3,a4,a5⟩,⟨s0,s1,s2,s3,s4,s5⟩,true⟩:ThV).b<0)||decide ((l.length:Int)≤(⟨hb,hn,⟨a0,a1,a2,a3,a4,a5⟩,⟨s0,s1,s2,s3,s4,s5⟩,true⟩:ThV).b))=false from by simp only[Bool.or_eq_false_iff,decide_eq_false_iff_not];omega]at this;exact this)
 have HD:=Lib.hid (fun W=>show Calls Tryz.prog 96 #[.slice a l.length c,.agg #[.int .i64 hb,.int .i64 hn,.int .i64 a0,.int .i64 a1,.int .i64 a2,.int .i64 a3,.int .i64 a4,.int .i64 a5,.int .i64 s0,.int .i64 s1,.int .i64 s2,.int .i64 s3,.int .i64 s4,.int .i64 s5,.bool true]] W fun e w'=>e=.returned (.bool false)∧Below W.heap.size W w' from HD.out W)
 obtain⟨b',n',⟨r0,r1,r2,r3,r4,r5⟩,⟨p0,p1,p2,p3,p4,p5⟩,hl'⟩:=h';obtain⟨ak,ae,av⟩:=a';have HC:=Lib.hid (fun X o2 (hx:StIn X o2 y S)=>show Calls Tryz.prog 154 #[ptr y.sb,.int .i64 i,d.v,.agg #[.int .i64 hb,.int .i64 hn,.int .i64 a0,.int .i64 a1,.int .i64 a2,.int .i64 a3,.int .i64 a4,.int .i64 a5,.int .i64 s0,.int .i64 s1,.int .i64 s2,.int .i64 s3,.int .i64 s4,.int .i64 s5,.bool true]] X fun e' w'=>e'=.returned (.tuple #[.agg #[.int .i64 b',.int .i64 n',.int .i64 r0,.int .i64 r1,.int .i64 r2,.int .i64 r3,.int .i64 r4,.int .i64 r5,.int .i64 p0,.int .i64 p1,.int .i64 p2,.int .i64 p3,.int .i64 p4,.int .i64 p5,.bool hl'],.agg #[.int .i64 ak,.int .i64 ae,.int .i64 av]])∧Left y S' o2 X w' from call X o2 hx)
 clear call;obtain⟨W,hW⟩:∃ W:World,W=((w.alloc (.cells #[.int .i64 hb,.int .i64 hn,.int .i64 a0,.int .i64 a1,.int .i64 a2,.int .i64 a3,.int .i64 a4,.int .i64 a5,.int .i64 s0,.int .i64 s1,.int .i64 s2,.int .i64 s3,.int .i64 s4,.int .i64 s5,.bool true] 58)).alloc (.cells #[.int .i64 0,.int .i64 0,.int .i64 0,.int .i64 0,.int .i64 0,.int .i64 0,.int .i64 0,.int .i64 0,.int .i64 0,.int .i64 0,.int .i64 0,.int .i64 0,.int .i64 0,.int .i64 0,.bool false] 58)).alloc (.cells #[.int .i64 0,.int .i64 0,.int .i64 0] 54):=⟨_,rfl⟩;have hbW:Below w.heap.size w W:=by rw[hW];exact qa (qa (qa (qc w) _) _) _
 have k7:Blk W w.heap.size #[.int .i64 hb,.int .i64 hn,.int .i64 a0,.int .i64 a1,.int .i64 a2,.int .i64 a3,.int .i64 a4,.int .i64 a5,.int .i64 s0,.int .i64 s1,.int .i64 s2,.int .i64 s3,.int .i64 s4,.int .i64 s5,.bool true] 58:=by rw[hW];exact ((Blk.new w _ _).alloc _).alloc _
 have k8:Blk W (w.heap.size+1) #[.int .i64 0,.int .i64 0,.int .i64 0,.int .i64 0,.int .i64 0,.int .i64 0,.int .i64 0,.int .i64 0,.int .i64 0,.int .i64 0,.int .i64 0,.int .i64 0,.int .i64 0,.int .i64 0,.bool false] 58:=by rw[hW];exact (Blk.new_at _ _ _ _ _ (by simp) rfl).alloc _
 have k9:Blk W (w.heap.size+1+1) #[.int .i64 0,.int .i64 0,.int .i64 0] 54:=by rw[hW];exact Blk.new_at _ _ _ _ _ (by simp) rfl
 have hsW:Stp (qh y) o o1 w W:=hS0.trans (Stp.of_below hbW);have hnn:(hn:Int)≥0:=hn1;go_enter Tryz.func93,Tryz.ntmps93;go_wp2_with fail;rw[←hW];clear hW;refine (HD.out _).mono ?_
 rintro e1 w1 ⟨rfl,hb1'⟩
 replace k7:=k7.below hb1' k7.lt;replace k8:=k8.below hb1' k8.lt;replace k9:=k9.below hb1' k9.lt;replace hbW:=qd hbW hb1';replace hsW:=hsW.trans (Stp.of_below hb1');have hSW:=h1.below hbW;have c7:=k7.cell;clear hb1' HD;obtain⟨ds,hds,hdm⟩:=hnd;obtain⟨j,rfl⟩:∃ j:Nat,hb=j:=⟨hb.toNat,by omega⟩
 obtain⟨m,rfl⟩:∃ m:Nat,hn=m:=⟨hn.toNat,by omega⟩
 rw[Int.toNat_natCast]at hds hdm;obtain⟨bb,off,rfl,vd,hcd,hdd⟩:=hBl j ds hds;obtain⟨ad,cd,rfl,hdc⟩:=hdd;obtain⟨b5,off5,rfl,q0,q1,q2,q3,q4⟩:=hdc m d hdm;have jL:(j:Int)<(l.length:Int):=hb2;have mL:(m:Int)<(ds.length:Int):=by have:=(List.getElem?_eq_some_iff.1 hdm).1;omega
 have HR:=Lib.hid (fun X=>show Calls Tryz.prog 147 #[.agg #[.int .i64 d.k,.int .i64 d.A,.int .i64 d.B,.int .i64 d.i,.int .i64 d.n]] X fun e w'=>e=.returned (.bool true)∧Below X.heap.size X w' from by have:=qdy d.k d.A d.B d.i d.n X;rw[show Pg.right ⟨d.k,d.A,d.B,d.i,d.n⟩=true from hrt]at this;exact this)
 have HC:=Lib.hid (fun X o2 (h:StIn X o2 y S)=>show Calls Tryz.prog 154 #[ptr y.sb,.int .i64 i,.agg #[.int .i64 d.k,.int .i64 d.A,.int .i64 d.B,.int .i64 d.i,.int .i64 d.n],.agg #[.int .i64 (j:Int),.int .i64 (m:Int),.int .i64 a0,.int .i64 a1,.int .i64 a2,.int .i64 a3,.int .i64 a4,.int .i64 a5,.int .i64 s0,.int .i64 s1,.int .i64 s2,.int .i64 s3,.int .i64 s4,.int .i64 s5,.bool true]] X fun e' w'=>e'=.returned (.tuple #[.agg #[.int .i64 b',.int .i64 n',.int .i64 r0,.int .i64 r1,.int .i64 r2,.int .i64 r3,.int .i64 r4,.int .i64 r5,.int .i64 p0,.int .i64 p1,.int .i64 p2,.int .i64 p3,.int .i64 p4,.int .i64 p5,.bool hl'],.agg #[.int .i64 ak,.int .i64 ae,.int .i64 av]])∧Left y S' o2 X w' from HC.out X o2 h)
 replace q0:=cell_below q0 hbW;replace q1:=cell_below q1 hbW;replace q2:=cell_below q2 hbW;replace q3:=cell_below q3 hbW;replace q4:=cell_below q4 hbW;replace hcd:=cell_below hcd hbW;clear hdc hds hdm hrt;go_wp2_with fail;obtain⟨V0,hV0⟩:∃ V0,V0=w1.alloc (.cells #[.int .i64 d.k,.int .i64 d.A,.int .i64 d.B,.int .i64 d.i,.int .i64 d.n] 73):=⟨_,rfl⟩;rw[←hV0];have kD:Blk V0 w1.heap.size #[.int .i64 d.k,.int .i64 d.A,.int .i64 d.B,.int .i64 d.i,.int .i64 d.n] 73:=by rw[hV0];exact Blk.new _ _ _
 have hb0:Below w1.heap.size w1 V0:=by rw[hV0];exact qa (qc _) _
 clear hV0 q0 q1 q2 q3 q4 hcd;refine (HR.out _).mono ?_
 rintro e3 V ⟨rfl,hb3⟩
 have hb4:=qd hb0 hb3;replace k7:=k7.below hb4 k7.lt;replace k8:=k8.below hb4 k8.lt;replace k9:=k9.below hb4 k9.lt;replace hsW:=hsW.trans (Stp.of_below hb4);replace hSW:=hSW.below hb4;replace kD:=kD.below hb3 kD.lt;have c7:=k7.cell;have cD:=kD.cell;clear hb0 hb3 hb4 HR hbW;go_wp2_with fail;refine (HC.out _ _ hSW).mono ?_
 rintro e2 w2 ⟨rfl,hL⟩
 clear kD cD;obtain⟨o2,hS2,hI2,hs2⟩:=hL;have nt:∀ b,w.heap.size≤b→¬qh y (o1 b):=fun b q1=>uh (hbx b q1)
 have tg:∀ b,w.heap.size≤b→b<V.heap.size→bxT y (o2 b):=fun b q1 q2=>by have:=hbx b q1;rw[←hs2.tags b q2]at this;exact this
 have t8:=tg (w.heap.size+1) (by omega) k8.lt
 have t9:=tg (w.heap.size+1+1) (by omega) k9.lt
 replace k8:=k8.stp hs2 (nt _ (by omega))
 replace k9:=k9.stp hs2 (nt _ (by omega))
 have hs5:=hsW.trans hs2;have c8:=k8.cell;have z8:=k8.free;have l8:=k8.lt;have c9:=k9.cell;have z9:=k9.free;have l9:=k9.lt;have hres:=Lib.hid (zr k8 k9 (by omega) ⟨b',n',⟨r0,r1,r2,r3,r4,r5⟩,⟨p0,p1,p2,p3,p4,p5⟩,hl'⟩ ⟨ak,ae,av⟩)
 have hrs:=Lib.hid (ku hs5 (b6:=(w.heap.size+1)) (b7:=(w.heap.size+1+1)) (by omega) (by omega) ⟨b',n',⟨r0,r1,r2,r3,r4,r5⟩,⟨p0,p1,p2,p3,p4,p5⟩,hl'⟩ ⟨ak,ae,av⟩)
 have hrS:=Lib.hid (hS2.bx (xd w2 (w.heap.size+1) (w.heap.size+1+1) (o:=o2) t8 t9 ⟨b',n',⟨r0,r1,r2,r3,r4,r5⟩,⟨p0,p1,p2,p3,p4,p5⟩,hl'⟩ ⟨ak,ae,av⟩));have HI2:=Lib.hid hI2;clear k7 k8 k9 hs5 hs2 hsW hSW hS2 hI2 nt tg hbx h1 hS0 hBl HC c7;go_wp2_with fail;change bodyPost _ _ _ _ _ (zy w2 (w.heap.size+1) (w.heap.size+1+1) ⟨b',n',⟨r0,r1,r2,r3,r4,r5⟩,⟨p0,p1,p2,p3,p4,p5⟩,hl'⟩ ⟨ak,ae,av⟩);generalize zy w2 (w.heap.size+1) (w.heap.size+1+1) ⟨b',n',⟨r0,r1,r2,r3,r4,r5⟩,⟨p0,p1,p2,p3,p4,p5⟩,hl'⟩ ⟨ak,ae,av⟩=X at *;exact bodyPost_ret (qq _ _ 8 9 rfl rfl rfl hres.out.1 hres.out.2) rfl ⟨rfl,o2,hrS.out,HI2.out,hrs.out⟩
end
end Go.Proofs.YteehgedabdchcaaGreat
