import Derived.Test.YteehgedabdchcaaGreatKat
import Derived.Test.YteehgedabdchcaaGreatKaz
set_option linter.all false
set_option maxRecDepth 1000000
set_option maxHeartbeats 16000000
open Go renaming World->Aa,Calls->Ab,Value->Ac
open Go.RowKit renaming Below->Ae
open Go.Value renaming int->I,tuple->Aj,agg->Ak
open Go.IntKind renaming i64->Z
open Go.Ending renaming returned->O
namespace Go.Proofs.YteehgedabdchcaaGreat
open Go.RowKit Hp
attribute [local go_sem ↓] Go.wp_at_zero Go.wp_at_succ
def EW (w:Aa)(v:Ac)(l:List Ay):Prop:=
 ∃ a c,v=.slice a l.length c/\∀ m d,l[m]?=some d->∃ b off,a=some ⟨b,off,none⟩/\w.cell? ⟨b,off+m*5,none⟩=some (I Z d.k)/\w.cell? ⟨b,off+m*5+1,none⟩=some (I Z d.A)/\w.cell? ⟨b,off+m*5+2,none⟩=some (I Z d.B)/\w.cell? ⟨b,off+m*5+3,none⟩=some (I Z d.i)/\w.cell? ⟨b,off+m*5+4,none⟩=some (I Z d.n)
def Dc (w:Aa)(v:Ac)(l:List (List Ay)):Prop:=
 ∃ a c,v=.slice a l.length c/\∀ j ds,l[j]?=some ds->∃ b off,a=some ⟨b,off,none⟩/\∃ vd,w.cell? ⟨b,off+j,none⟩=some vd/\EW w vd ds
theorem QV {w:Aa}{b k:Nat}{v:Ac}(h:w.cell? ⟨b,k,none⟩=some v):b<w.heap.size:=by
 unfold World.cell? at h;split at h
 ·rename_i h';exact (Qf.1 h').1
 ·cases h
theorem cell_below {w w':Aa}{b k:Nat}{v:Ac}(h:w.cell? ⟨b,k,none⟩=some v)(hb:Ae w.heap.size w w'):w'.cell? ⟨b,k,none⟩=some v:=
 (hb.cell (p:=⟨b,k,none⟩) (QV h)).trans h
theorem EW.below {w w':Aa}{v:Ac}{l:List Ay}(h:EW w v l)(hb:Ae w.heap.size w w'):EW w' v l:=by
 obtain⟨a,c,rfl,h⟩:=h;refine⟨a,c,rfl,fun m d hd=>?_⟩
 obtain⟨b,off,ha,h0,h1,h2,h3,h4⟩:=h m d hd;exact⟨b,off,ha,cell_below h0 hb,cell_below h1 hb,cell_below h2 hb,cell_below h3 hb,cell_below h4 hb⟩
theorem Dc.below {w w':Aa}{v:Ac}{l:List (List Ay)}(h:Dc w v l)(hb:Ae w.heap.size w w'):Dc w' v l:=by
 obtain⟨a,c,rfl,h⟩:=h;refine⟨a,c,rfl,fun j ds hj=>?_⟩
 obtain⟨b,off,ha,vd,h0,h1⟩:=h j ds hj;exact⟨b,off,ha,vd,cell_below h0 hb,h1.below hb⟩
def Ay.D (d:Ay):Pg.D:=⟨d.k,d.A,d.B,d.i,d.n⟩
section
variable {w w' : Aa} {o o' : Own} {y : A3} {S : Al} {i : Nat}
theorem Xc (hb hn a0 a1 a2 a3 a4 a5 s0 s1 s2 s3 s4 s5:Int) (hl:Bool) (vs:Ac) (a:Option Addr) (n c:Nat) (iv:Int) (hd:(n:Int)<=hb) (w:Aa) :
  Ab Tryz.prog 93 #[vs,I Z iv,.slice a n c,Ak #[I Z hb,I Z hn,I Z a0,I Z a1,I Z a2,I Z a3,I Z a4,I Z a5,I Z s0,I Z s1,I Z s2,I Z s3,I Z s4,I Z s5,.bool hl]] w fun e' w'=>e'=O (Aj #[AD.v ⟨hb,hn,⟨a0,a1,a2,a3,a4,a5⟩,⟨s0,s1,s2,s3,s4,s5⟩,hl⟩,Bf.val ⟨0,0,0⟩])/\Ae w.heap.size w w':=by
 have HD:=Qa (fun W=>by have:=ma ⟨hb,hn,⟨a0,a1,a2,a3,a4,a5⟩,⟨s0,s1,s2,s3,s4,s5⟩,hl⟩ a n c W;rw[show (decide ((⟨hb,hn,⟨a0,a1,a2,a3,a4,a5⟩,⟨s0,s1,s2,s3,s4,s5⟩,hl⟩:AD).b<0)||decide ((n:Int)<=(⟨hb,hn,⟨a0,a1,a2,a3,a4,a5⟩,⟨s0,s1,s2,s3,s4,s5⟩,hl⟩:AD).b))=true from by simp only[Bool.or_eq_true,decide_eq_true_eq];exact .inr hd]at this;exact this)
 have HD:=Qa (fun W=>show Ab Tryz.prog 96 #[.slice a n c,Ak #[I Z hb,I Z hn,I Z a0,I Z a1,I Z a2,I Z a3,I Z a4,I Z a5,I Z s0,I Z s1,I Z s2,I Z s3,I Z s4,I Z s5,.bool hl]] W fun e w'=>e=O (.bool true)/\Ae W.heap.size W w' from HD.out W)
 clear hd;obtain⟨W,hW⟩:∃ W:Aa,W=((w.alloc (.cells #[I Z hb,I Z hn,I Z a0,I Z a1,I Z a2,I Z a3,I Z a4,I Z a5,I Z s0,I Z s1,I Z s2,I Z s3,I Z s4,I Z s5,.bool hl] 58)).alloc (.cells #[I Z 0,I Z 0,I Z 0,I Z 0,I Z 0,I Z 0,I Z 0,I Z 0,I Z 0,I Z 0,I Z 0,I Z 0,I Z 0,I Z 0,.bool false] 58)).alloc (.cells #[I Z 0,I Z 0,I Z 0] 54):=⟨_,rfl⟩;have hbW:Ae w.heap.size w W:=by rw[hW];exact qa (qa (qa (qc w) _) _) _
 have k7:Am W w.heap.size #[I Z hb,I Z hn,I Z a0,I Z a1,I Z a2,I Z a3,I Z a4,I Z a5,I Z s0,I Z s1,I Z s2,I Z s3,I Z s4,I Z s5,.bool hl] 58:=by rw[hW];exact ((Am.new w _ _).alloc _).alloc _
 have k8:Am W (w.heap.size+1) #[I Z 0,I Z 0,I Z 0,I Z 0,I Z 0,I Z 0,I Z 0,I Z 0,I Z 0,I Z 0,I Z 0,I Z 0,I Z 0,I Z 0,.bool false] 58:=by rw[hW];exact (Am.Aq _ _ _ _ _ (by simp) rfl).alloc _
 have k9:Am W (w.heap.size+1+1) #[I Z 0,I Z 0,I Z 0] 54:=by rw[hW];exact Am.Aq _ _ _ _ _ (by simp) rfl
 go_enter Tryz.func93,Tryz.ntmps93;go_wp2_with fail;rw[<-hW];clear hW;refine (HD.out _).mono ?_
 rintro e1 w1 ⟨rfl,hb1⟩
 replace k7:=k7.below hb1 k7.lt;replace k8:=k8.below hb1 k8.lt;replace k9:=k9.below hb1 k9.lt;replace hbW:=qd hbW hb1;have c7:=k7.cell;have c8:=k8.cell;have z8:=k8.free;have l8:=k8.lt;have c9:=k9.cell;have z9:=k9.free;have l9:=k9.lt;have hres:=Qa (zu k8 k9 (by omega) ⟨hb,hn,⟨a0,a1,a2,a3,a4,a5⟩,⟨s0,s1,s2,s3,s4,s5⟩,hl⟩ ⟨0,0,0⟩)
 have hrb:=Qa (xf hbW (b6:=(w.heap.size+1)) (b7:=(w.heap.size+1+1)) (by omega) (by omega) ⟨hb,hn,⟨a0,a1,a2,a3,a4,a5⟩,⟨s0,s1,s2,s3,s4,s5⟩,hl⟩ ⟨0,0,0⟩)
 clear k7 k8 k9 hbW hb1 HD;go_wp2_with fail;change bodyPost _ _ _ _ _ (jd w1 (w.heap.size+1) (w.heap.size+1+1) ⟨hb,hn,⟨a0,a1,a2,a3,a4,a5⟩,⟨s0,s1,s2,s3,s4,s5⟩,hl⟩ ⟨0,0,0⟩);generalize jd w1 (w.heap.size+1) (w.heap.size+1+1) ⟨hb,hn,⟨a0,a1,a2,a3,a4,a5⟩,⟨s0,s1,s2,s3,s4,s5⟩,hl⟩ ⟨0,0,0⟩=X at *;exact bodyPost_ret (qq _ _ 8 9 rfl rfl rfl hres.out.1 hres.out.2) rfl ⟨rfl,hrb.out⟩
theorem U0 (hS:Ap w o y S) (hb hn a0 a1 a2 a3 a4 a5 s0 s1 s2 s3 s4 s5:Int) (vb:Ac) (l:List (List Ay)) (hB:Dc w vb l) (hb1:0<=hb) (hb2:hb<(l.length:Int)) (hn1:0<=hn)
  (S':Al) (h':AD) (a':Bf)
  (call:∀ X o2,Ap X o2 y S->Ab Tryz.prog 152 #[ptr y.sb,I Z i,I Z l.length,Ak #[I Z hb,I Z hn,I Z a0,I Z a1,I Z a2,I Z a3,I Z a4,I Z a5,I Z s0,I Z s1,I Z s2,I Z s3,I Z s4,I Z s5,.bool false]] X fun e' w'=>e'=O (Aj #[h'.v,a'.val])/\Left y S' o2 X w') :
  Ab Tryz.prog 93 #[ptr y.sb,I Z i,vb,Ak #[I Z hb,I Z hn,I Z a0,I Z a1,I Z a2,I Z a3,I Z a4,I Z a5,I Z s0,I Z s1,I Z s2,I Z s3,I Z s4,I Z s5,.bool false]] w fun e' w'=>e'=O (Aj #[h'.v,a'.val])/\Left y S' o w w':=by
 obtain⟨o1,ho1⟩:∃ o1,o1=ext o w.heap.size (y.l.id+1,0):=⟨_,rfl⟩;have h1:=hS.retag (o':=o1) fun b hb=>by rw[ho1];exact qj hb
 have hS0:Stp (qh y) o o1 w w:=by rw[ho1];exact (Stp.refl _ o w).ext _ _ (Qk _)
 have hbx:∀ b,w.heap.size<=b->CR y (o1 b):=fun b hb=>by rw[ho1];exact qp hb
 clear ho1 hS;obtain⟨a,c,rfl,hBl⟩:=hB;have HD:=Qa (fun W=>by have:=ma ⟨hb,hn,⟨a0,a1,a2,a3,a4,a5⟩,⟨s0,s1,s2,s3,s4,s5⟩,false⟩ a l.length c W;rw[show (decide ((⟨hb,hn,⟨a0,a1,a2,a3,a4,a5⟩,⟨s0,s1,s2,s3,s4,s5⟩,false⟩:AD).b<0)||decide ((l.length:Int)<=(⟨hb,hn,⟨a0,a1,a2,a3,a4,a5⟩,⟨s0,s1,s2,s3,s4,s5⟩,false⟩:AD).b))=false from by simp only[Bool.or_eq_false_iff,decide_eq_false_iff_not];omega]at this;exact this)
 have HD:=Qa (fun W=>show Ab Tryz.prog 96 #[.slice a l.length c,Ak #[I Z hb,I Z hn,I Z a0,I Z a1,I Z a2,I Z a3,I Z a4,I Z a5,I Z s0,I Z s1,I Z s2,I Z s3,I Z s4,I Z s5,.bool false]] W fun e w'=>e=O (.bool false)/\Ae W.heap.size W w' from HD.out W)
 obtain⟨b',n',⟨r0,r1,r2,r3,r4,r5⟩,⟨p0,p1,p2,p3,p4,p5⟩,hl'⟩:=h';obtain⟨ak,ae,av⟩:=a';have HC:=Qa (fun X o2 (hx:Ap X o2 y S)=>show Ab Tryz.prog 152 #[ptr y.sb,I Z i,I Z l.length,Ak #[I Z hb,I Z hn,I Z a0,I Z a1,I Z a2,I Z a3,I Z a4,I Z a5,I Z s0,I Z s1,I Z s2,I Z s3,I Z s4,I Z s5,.bool false]] X fun e' w'=>e'=O (Aj #[Ak #[I Z b',I Z n',I Z r0,I Z r1,I Z r2,I Z r3,I Z r4,I Z r5,I Z p0,I Z p1,I Z p2,I Z p3,I Z p4,I Z p5,.bool hl'],Ak #[I Z ak,I Z ae,I Z av]])/\Left y S' o2 X w' from call X o2 hx)
 clear call;obtain⟨W,hW⟩:∃ W:Aa,W=((w.alloc (.cells #[I Z hb,I Z hn,I Z a0,I Z a1,I Z a2,I Z a3,I Z a4,I Z a5,I Z s0,I Z s1,I Z s2,I Z s3,I Z s4,I Z s5,.bool false] 58)).alloc (.cells #[I Z 0,I Z 0,I Z 0,I Z 0,I Z 0,I Z 0,I Z 0,I Z 0,I Z 0,I Z 0,I Z 0,I Z 0,I Z 0,I Z 0,.bool false] 58)).alloc (.cells #[I Z 0,I Z 0,I Z 0] 54):=⟨_,rfl⟩;have hbW:Ae w.heap.size w W:=by rw[hW];exact qa (qa (qa (qc w) _) _) _
 have k7:Am W w.heap.size #[I Z hb,I Z hn,I Z a0,I Z a1,I Z a2,I Z a3,I Z a4,I Z a5,I Z s0,I Z s1,I Z s2,I Z s3,I Z s4,I Z s5,.bool false] 58:=by rw[hW];exact ((Am.new w _ _).alloc _).alloc _
 have k8:Am W (w.heap.size+1) #[I Z 0,I Z 0,I Z 0,I Z 0,I Z 0,I Z 0,I Z 0,I Z 0,I Z 0,I Z 0,I Z 0,I Z 0,I Z 0,I Z 0,.bool false] 58:=by rw[hW];exact (Am.Aq _ _ _ _ _ (by simp) rfl).alloc _
 have k9:Am W (w.heap.size+1+1) #[I Z 0,I Z 0,I Z 0] 54:=by rw[hW];exact Am.Aq _ _ _ _ _ (by simp) rfl
 have hsW:Stp (qh y) o o1 w W:=hS0.trans (Stp.of_below hbW);have hnn:(hn:Int)>=0:=hn1;go_enter Tryz.func93,Tryz.ntmps93;go_wp2_with fail;rw[<-hW];clear hW;refine (HD.out _).mono ?_
 rintro e1 w1 ⟨rfl,hb1'⟩
 replace k7:=k7.below hb1' k7.lt;replace k8:=k8.below hb1' k8.lt;replace k9:=k9.below hb1' k9.lt;replace hbW:=qd hbW hb1';replace hsW:=hsW.trans (Stp.of_below hb1');have hSW:=h1.below hbW;have c7:=k7.cell;clear hb1' HD;obtain⟨V,hV⟩:∃ V,V=w1:=⟨_,rfl⟩;rw[<-hV]at k7 k8 k9 hbW hsW hSW c7 ⊢;clear hV;go_wp2_with fail;refine (HC.out _ _ hSW).mono ?_
 rintro e2 w2 ⟨rfl,hL⟩
 obtain⟨o2,hS2,hI2,hs2⟩:=hL;have nt:∀ b,w.heap.size<=b->¬qh y (o1 b):=fun b q1=>uh (hbx b q1)
 have tg:∀ b,w.heap.size<=b->b<V.heap.size->CR y (o2 b):=fun b q1 q2=>by have:=hbx b q1;rw[<-hs2.tags b q2]at this;exact this
 have t8:=tg (w.heap.size+1) (by omega) k8.lt
 have t9:=tg (w.heap.size+1+1) (by omega) k9.lt
 replace k8:=k8.Ao hs2 (nt _ (by omega))
 replace k9:=k9.Ao hs2 (nt _ (by omega))
 have hs5:=hsW.trans hs2;have c8:=k8.cell;have z8:=k8.free;have l8:=k8.lt;have c9:=k9.cell;have z9:=k9.free;have l9:=k9.lt;have hres:=Qa (zu k8 k9 (by omega) ⟨b',n',⟨r0,r1,r2,r3,r4,r5⟩,⟨p0,p1,p2,p3,p4,p5⟩,hl'⟩ ⟨ak,ae,av⟩)
 have hrs:=Qa (ku hs5 (b6:=(w.heap.size+1)) (b7:=(w.heap.size+1+1)) (by omega) (by omega) ⟨b',n',⟨r0,r1,r2,r3,r4,r5⟩,⟨p0,p1,p2,p3,p4,p5⟩,hl'⟩ ⟨ak,ae,av⟩)
 have hrS:=Qa (hS2.bx (xj w2 (w.heap.size+1) (w.heap.size+1+1) (o:=o2) t8 t9 ⟨b',n',⟨r0,r1,r2,r3,r4,r5⟩,⟨p0,p1,p2,p3,p4,p5⟩,hl'⟩ ⟨ak,ae,av⟩));have HI2:=Qa hI2;clear k7 k8 k9 hs5 hs2 hsW hSW hS2 hI2 nt tg hbx h1 hS0 hBl HC c7;go_wp2_with fail;change bodyPost _ _ _ _ _ (jd w2 (w.heap.size+1) (w.heap.size+1+1) ⟨b',n',⟨r0,r1,r2,r3,r4,r5⟩,⟨p0,p1,p2,p3,p4,p5⟩,hl'⟩ ⟨ak,ae,av⟩);generalize jd w2 (w.heap.size+1) (w.heap.size+1+1) ⟨b',n',⟨r0,r1,r2,r3,r4,r5⟩,⟨p0,p1,p2,p3,p4,p5⟩,hl'⟩ ⟨ak,ae,av⟩=X at *;exact bodyPost_ret (qq _ _ 8 9 rfl rfl rfl hres.out.1 hres.out.2) rfl ⟨rfl,o2,hrS.out,HI2.out,hrs.out⟩
theorem tb (hS:Ap w o y S) (hb hn a0 a1 a2 a3 a4 a5 s0 s1 s2 s3 s4 s5:Int) (vb:Ac) (l:List (List Ay)) (hB:Dc w vb l) (hb1:0<=hb) (hb2:hb<(l.length:Int)) (hn1:0<=hn) (hnd:∀ ds,l[hb.toNat]?=some ds->(ds.length:Int)<=hn)
  (S':Al) (h':AD) (a':Bf)
  (call:∀ X o2,Ap X o2 y S->Ab Tryz.prog 153 #[ptr y.sb,I Z i,Ak #[I Z hb,I Z hn,I Z a0,I Z a1,I Z a2,I Z a3,I Z a4,I Z a5,I Z s0,I Z s1,I Z s2,I Z s3,I Z s4,I Z s5,.bool true]] X fun e' w'=>e'=O (Aj #[h'.v,a'.val])/\Left y S' o2 X w') :
  Ab Tryz.prog 93 #[ptr y.sb,I Z i,vb,Ak #[I Z hb,I Z hn,I Z a0,I Z a1,I Z a2,I Z a3,I Z a4,I Z a5,I Z s0,I Z s1,I Z s2,I Z s3,I Z s4,I Z s5,.bool true]] w fun e' w'=>e'=O (Aj #[h'.v,a'.val])/\Left y S' o w w':=by
 obtain⟨o1,ho1⟩:∃ o1,o1=ext o w.heap.size (y.l.id+1,0):=⟨_,rfl⟩;have h1:=hS.retag (o':=o1) fun b hb=>by rw[ho1];exact qj hb
 have hS0:Stp (qh y) o o1 w w:=by rw[ho1];exact (Stp.refl _ o w).ext _ _ (Qk _)
 have hbx:∀ b,w.heap.size<=b->CR y (o1 b):=fun b hb=>by rw[ho1];exact qp hb
 clear ho1 hS;obtain⟨a,c,rfl,hBl⟩:=hB;have HD:=Qa (fun W=>by have:=ma ⟨hb,hn,⟨a0,a1,a2,a3,a4,a5⟩,⟨s0,s1,s2,s3,s4,s5⟩,true⟩ a l.length c W;rw[show (decide ((⟨hb,hn,⟨a0,a1,a2,a3,a4,a5⟩,⟨s0,s1,s2,s3,s4,s5⟩,true⟩:AD).b<0)||decide ((l.length:Int)<=(⟨hb,hn,⟨a0,a1,a2,a3,a4,a5⟩,⟨s0,s1,s2,s3,s4,s5⟩,true⟩:AD).b))=false from by simp only[Bool.or_eq_false_iff,decide_eq_false_iff_not];omega]at this;exact this)
 have HD:=Qa (fun W=>show Ab Tryz.prog 96 #[.slice a l.length c,Ak #[I Z hb,I Z hn,I Z a0,I Z a1,I Z a2,I Z a3,I Z a4,I Z a5,I Z s0,I Z s1,I Z s2,I Z s3,I Z s4,I Z s5,.bool true]] W fun e w'=>e=O (.bool false)/\Ae W.heap.size W w' from HD.out W)
 obtain⟨b',n',⟨r0,r1,r2,r3,r4,r5⟩,⟨p0,p1,p2,p3,p4,p5⟩,hl'⟩:=h';obtain⟨ak,ae,av⟩:=a';have HC:=Qa (fun X o2 (hx:Ap X o2 y S)=>show Ab Tryz.prog 153 #[ptr y.sb,I Z i,Ak #[I Z hb,I Z hn,I Z a0,I Z a1,I Z a2,I Z a3,I Z a4,I Z a5,I Z s0,I Z s1,I Z s2,I Z s3,I Z s4,I Z s5,.bool true]] X fun e' w'=>e'=O (Aj #[Ak #[I Z b',I Z n',I Z r0,I Z r1,I Z r2,I Z r3,I Z r4,I Z r5,I Z p0,I Z p1,I Z p2,I Z p3,I Z p4,I Z p5,.bool hl'],Ak #[I Z ak,I Z ae,I Z av]])/\Left y S' o2 X w' from call X o2 hx)
 clear call;obtain⟨W,hW⟩:∃ W:Aa,W=((w.alloc (.cells #[I Z hb,I Z hn,I Z a0,I Z a1,I Z a2,I Z a3,I Z a4,I Z a5,I Z s0,I Z s1,I Z s2,I Z s3,I Z s4,I Z s5,.bool true] 58)).alloc (.cells #[I Z 0,I Z 0,I Z 0,I Z 0,I Z 0,I Z 0,I Z 0,I Z 0,I Z 0,I Z 0,I Z 0,I Z 0,I Z 0,I Z 0,.bool false] 58)).alloc (.cells #[I Z 0,I Z 0,I Z 0] 54):=⟨_,rfl⟩;have hbW:Ae w.heap.size w W:=by rw[hW];exact qa (qa (qa (qc w) _) _) _
 have k7:Am W w.heap.size #[I Z hb,I Z hn,I Z a0,I Z a1,I Z a2,I Z a3,I Z a4,I Z a5,I Z s0,I Z s1,I Z s2,I Z s3,I Z s4,I Z s5,.bool true] 58:=by rw[hW];exact ((Am.new w _ _).alloc _).alloc _
 have k8:Am W (w.heap.size+1) #[I Z 0,I Z 0,I Z 0,I Z 0,I Z 0,I Z 0,I Z 0,I Z 0,I Z 0,I Z 0,I Z 0,I Z 0,I Z 0,I Z 0,.bool false] 58:=by rw[hW];exact (Am.Aq _ _ _ _ _ (by simp) rfl).alloc _
 have k9:Am W (w.heap.size+1+1) #[I Z 0,I Z 0,I Z 0] 54:=by rw[hW];exact Am.Aq _ _ _ _ _ (by simp) rfl
 have hsW:Stp (qh y) o o1 w W:=hS0.trans (Stp.of_below hbW);have hnn:(hn:Int)>=0:=hn1;go_enter Tryz.func93,Tryz.ntmps93;go_wp2_with fail;rw[<-hW];clear hW;refine (HD.out _).mono ?_
 rintro e1 w1 ⟨rfl,hb1'⟩
 replace k7:=k7.below hb1' k7.lt;replace k8:=k8.below hb1' k8.lt;replace k9:=k9.below hb1' k9.lt;replace hbW:=qd hbW hb1';replace hsW:=hsW.trans (Stp.of_below hb1');have hSW:=h1.below hbW;have c7:=k7.cell;clear hb1' HD;obtain⟨j,rfl⟩:∃ j:Nat,hb=j:=⟨hb.toNat,by omega⟩
 obtain⟨ds,hds⟩:∃ ds,l[j]?=some ds:=⟨l[j]'(by omega),Qb _⟩
 obtain⟨bb,off,rfl,vd,hcd,hdd⟩:=hBl j ds hds;obtain⟨ad,cd,rfl,hdc⟩:=hdd;have hcd':=cell_below hcd hbW;have jL:(j:Int)<(l.length:Int):=hb2;have hle:(ds.length:Int)<=hn:=hnd ds (by rw[Int.toNat_natCast];exact hds)
 clear hnd hdc;obtain⟨V,hV⟩:∃ V,V=w1:=⟨_,rfl⟩;rw[<-hV]at k7 k8 k9 hbW hsW hSW c7 hcd' ⊢;clear hV;go_wp2_with fail;refine (HC.out _ _ hSW).mono ?_
 rintro e2 w2 ⟨rfl,hL⟩
 clear hcd hds hcd';obtain⟨o2,hS2,hI2,hs2⟩:=hL;have nt:∀ b,w.heap.size<=b->¬qh y (o1 b):=fun b q1=>uh (hbx b q1)
 have tg:∀ b,w.heap.size<=b->b<V.heap.size->CR y (o2 b):=fun b q1 q2=>by have:=hbx b q1;rw[<-hs2.tags b q2]at this;exact this
 have t8:=tg (w.heap.size+1) (by omega) k8.lt
 have t9:=tg (w.heap.size+1+1) (by omega) k9.lt
 replace k8:=k8.Ao hs2 (nt _ (by omega))
 replace k9:=k9.Ao hs2 (nt _ (by omega))
 have hs5:=hsW.trans hs2;have c8:=k8.cell;have z8:=k8.free;have l8:=k8.lt;have c9:=k9.cell;have z9:=k9.free;have l9:=k9.lt;have hres:=Qa (zu k8 k9 (by omega) ⟨b',n',⟨r0,r1,r2,r3,r4,r5⟩,⟨p0,p1,p2,p3,p4,p5⟩,hl'⟩ ⟨ak,ae,av⟩)
 have hrs:=Qa (ku hs5 (b6:=(w.heap.size+1)) (b7:=(w.heap.size+1+1)) (by omega) (by omega) ⟨b',n',⟨r0,r1,r2,r3,r4,r5⟩,⟨p0,p1,p2,p3,p4,p5⟩,hl'⟩ ⟨ak,ae,av⟩)
 have hrS:=Qa (hS2.bx (xj w2 (w.heap.size+1) (w.heap.size+1+1) (o:=o2) t8 t9 ⟨b',n',⟨r0,r1,r2,r3,r4,r5⟩,⟨p0,p1,p2,p3,p4,p5⟩,hl'⟩ ⟨ak,ae,av⟩));have HI2:=Qa hI2;clear k7 k8 k9 hs5 hs2 hsW hSW hS2 hI2 nt tg hbx h1 hS0 hBl HC c7;go_wp2_with fail;change bodyPost _ _ _ _ _ (jd w2 (w.heap.size+1) (w.heap.size+1+1) ⟨b',n',⟨r0,r1,r2,r3,r4,r5⟩,⟨p0,p1,p2,p3,p4,p5⟩,hl'⟩ ⟨ak,ae,av⟩);generalize jd w2 (w.heap.size+1) (w.heap.size+1+1) ⟨b',n',⟨r0,r1,r2,r3,r4,r5⟩,⟨p0,p1,p2,p3,p4,p5⟩,hl'⟩ ⟨ak,ae,av⟩=X at *;exact bodyPost_ret (qq _ _ 8 9 rfl rfl rfl hres.out.1 hres.out.2) rfl ⟨rfl,o2,hrS.out,HI2.out,hrs.out⟩
theorem XC (hS:Ap w o y S) (hb hn a0 a1 a2 a3 a4 a5 s0 s1 s2 s3 s4 s5:Int) (vb:Ac) (l:List (List Ay)) (hB:Dc w vb l) (hb1:0<=hb) (hb2:hb<(l.length:Int)) (hn1:0<=hn) (d:Ay) (hnd:∃ ds,l[hb.toNat]?=some ds/\ds[hn.toNat]?=some d) (hrt:Pg.right d.D=true)
  (S':Al) (h':AD) (a':Bf)
  (call:∀ X o2,Ap X o2 y S->Ab Tryz.prog 154 #[ptr y.sb,I Z i,d.v,Ak #[I Z hb,I Z hn,I Z a0,I Z a1,I Z a2,I Z a3,I Z a4,I Z a5,I Z s0,I Z s1,I Z s2,I Z s3,I Z s4,I Z s5,.bool true]] X fun e' w'=>e'=O (Aj #[h'.v,a'.val])/\Left y S' o2 X w') :
  Ab Tryz.prog 93 #[ptr y.sb,I Z i,vb,Ak #[I Z hb,I Z hn,I Z a0,I Z a1,I Z a2,I Z a3,I Z a4,I Z a5,I Z s0,I Z s1,I Z s2,I Z s3,I Z s4,I Z s5,.bool true]] w fun e' w'=>e'=O (Aj #[h'.v,a'.val])/\Left y S' o w w':=by
 obtain⟨o1,ho1⟩:∃ o1,o1=ext o w.heap.size (y.l.id+1,0):=⟨_,rfl⟩;have h1:=hS.retag (o':=o1) fun b hb=>by rw[ho1];exact qj hb
 have hS0:Stp (qh y) o o1 w w:=by rw[ho1];exact (Stp.refl _ o w).ext _ _ (Qk _)
 have hbx:∀ b,w.heap.size<=b->CR y (o1 b):=fun b hb=>by rw[ho1];exact qp hb
 clear ho1 hS;obtain⟨a,c,rfl,hBl⟩:=hB;have HD:=Qa (fun W=>by have:=ma ⟨hb,hn,⟨a0,a1,a2,a3,a4,a5⟩,⟨s0,s1,s2,s3,s4,s5⟩,true⟩ a l.length c W;rw[show (decide ((⟨hb,hn,⟨a0,a1,a2,a3,a4,a5⟩,⟨s0,s1,s2,s3,s4,s5⟩,true⟩:AD).b<0)||decide ((l.length:Int)<=(⟨hb,hn,⟨a0,a1,a2,a3,a4,a5⟩,⟨s0,s1,s2,s3,s4,s5⟩,true⟩:AD).b))=false from by simp only[Bool.or_eq_false_iff,decide_eq_false_iff_not];omega]at this;exact this)
 have HD:=Qa (fun W=>show Ab Tryz.prog 96 #[.slice a l.length c,Ak #[I Z hb,I Z hn,I Z a0,I Z a1,I Z a2,I Z a3,I Z a4,I Z a5,I Z s0,I Z s1,I Z s2,I Z s3,I Z s4,I Z s5,.bool true]] W fun e w'=>e=O (.bool false)/\Ae W.heap.size W w' from HD.out W)
 obtain⟨b',n',⟨r0,r1,r2,r3,r4,r5⟩,⟨p0,p1,p2,p3,p4,p5⟩,hl'⟩:=h';obtain⟨ak,ae,av⟩:=a';have HC:=Qa (fun X o2 (hx:Ap X o2 y S)=>show Ab Tryz.prog 154 #[ptr y.sb,I Z i,d.v,Ak #[I Z hb,I Z hn,I Z a0,I Z a1,I Z a2,I Z a3,I Z a4,I Z a5,I Z s0,I Z s1,I Z s2,I Z s3,I Z s4,I Z s5,.bool true]] X fun e' w'=>e'=O (Aj #[Ak #[I Z b',I Z n',I Z r0,I Z r1,I Z r2,I Z r3,I Z r4,I Z r5,I Z p0,I Z p1,I Z p2,I Z p3,I Z p4,I Z p5,.bool hl'],Ak #[I Z ak,I Z ae,I Z av]])/\Left y S' o2 X w' from call X o2 hx)
 clear call;obtain⟨W,hW⟩:∃ W:Aa,W=((w.alloc (.cells #[I Z hb,I Z hn,I Z a0,I Z a1,I Z a2,I Z a3,I Z a4,I Z a5,I Z s0,I Z s1,I Z s2,I Z s3,I Z s4,I Z s5,.bool true] 58)).alloc (.cells #[I Z 0,I Z 0,I Z 0,I Z 0,I Z 0,I Z 0,I Z 0,I Z 0,I Z 0,I Z 0,I Z 0,I Z 0,I Z 0,I Z 0,.bool false] 58)).alloc (.cells #[I Z 0,I Z 0,I Z 0] 54):=⟨_,rfl⟩;have hbW:Ae w.heap.size w W:=by rw[hW];exact qa (qa (qa (qc w) _) _) _
 have k7:Am W w.heap.size #[I Z hb,I Z hn,I Z a0,I Z a1,I Z a2,I Z a3,I Z a4,I Z a5,I Z s0,I Z s1,I Z s2,I Z s3,I Z s4,I Z s5,.bool true] 58:=by rw[hW];exact ((Am.new w _ _).alloc _).alloc _
 have k8:Am W (w.heap.size+1) #[I Z 0,I Z 0,I Z 0,I Z 0,I Z 0,I Z 0,I Z 0,I Z 0,I Z 0,I Z 0,I Z 0,I Z 0,I Z 0,I Z 0,.bool false] 58:=by rw[hW];exact (Am.Aq _ _ _ _ _ (by simp) rfl).alloc _
 have k9:Am W (w.heap.size+1+1) #[I Z 0,I Z 0,I Z 0] 54:=by rw[hW];exact Am.Aq _ _ _ _ _ (by simp) rfl
 have hsW:Stp (qh y) o o1 w W:=hS0.trans (Stp.of_below hbW);have hnn:(hn:Int)>=0:=hn1;go_enter Tryz.func93,Tryz.ntmps93;go_wp2_with fail;rw[<-hW];clear hW;refine (HD.out _).mono ?_
 rintro e1 w1 ⟨rfl,hb1'⟩
 replace k7:=k7.below hb1' k7.lt;replace k8:=k8.below hb1' k8.lt;replace k9:=k9.below hb1' k9.lt;replace hbW:=qd hbW hb1';replace hsW:=hsW.trans (Stp.of_below hb1');have hSW:=h1.below hbW;have c7:=k7.cell;clear hb1' HD;obtain⟨ds,hds,hdm⟩:=hnd;obtain⟨j,rfl⟩:∃ j:Nat,hb=j:=⟨hb.toNat,by omega⟩
 obtain⟨m,rfl⟩:∃ m:Nat,hn=m:=⟨hn.toNat,by omega⟩
 rw[Int.toNat_natCast]at hds hdm;obtain⟨bb,off,rfl,vd,hcd,hdd⟩:=hBl j ds hds;obtain⟨ad,cd,rfl,hdc⟩:=hdd;obtain⟨b5,off5,rfl,q0,q1,q2,q3,q4⟩:=hdc m d hdm;have jL:(j:Int)<(l.length:Int):=hb2;have mL:(m:Int)<(ds.length:Int):=by have:=(Qc.1 hdm).1;omega
 have HR:=Qa (fun X=>show Ab Tryz.prog 147 #[Ak #[I Z d.k,I Z d.A,I Z d.B,I Z d.i,I Z d.n]] X fun e w'=>e=O (.bool true)/\Ae X.heap.size X w' from by have:=TX d.k d.A d.B d.i d.n X;rw[show Pg.right ⟨d.k,d.A,d.B,d.i,d.n⟩=true from hrt]at this;exact this)
 have HC:=Qa (fun X o2 (h:Ap X o2 y S)=>show Ab Tryz.prog 154 #[ptr y.sb,I Z i,Ak #[I Z d.k,I Z d.A,I Z d.B,I Z d.i,I Z d.n],Ak #[I Z (j:Int),I Z (m:Int),I Z a0,I Z a1,I Z a2,I Z a3,I Z a4,I Z a5,I Z s0,I Z s1,I Z s2,I Z s3,I Z s4,I Z s5,.bool true]] X fun e' w'=>e'=O (Aj #[Ak #[I Z b',I Z n',I Z r0,I Z r1,I Z r2,I Z r3,I Z r4,I Z r5,I Z p0,I Z p1,I Z p2,I Z p3,I Z p4,I Z p5,.bool hl'],Ak #[I Z ak,I Z ae,I Z av]])/\Left y S' o2 X w' from HC.out X o2 h)
 replace q0:=cell_below q0 hbW;replace q1:=cell_below q1 hbW;replace q2:=cell_below q2 hbW;replace q3:=cell_below q3 hbW;replace q4:=cell_below q4 hbW;replace hcd:=cell_below hcd hbW;clear hdc hds hdm hrt;go_wp2_with fail;obtain⟨V0,hV0⟩:∃ V0,V0=w1.alloc (.cells #[I Z d.k,I Z d.A,I Z d.B,I Z d.i,I Z d.n] 73):=⟨_,rfl⟩;rw[<-hV0];have kD:Am V0 w1.heap.size #[I Z d.k,I Z d.A,I Z d.B,I Z d.i,I Z d.n] 73:=by rw[hV0];exact Am.new _ _ _
 have hb0:Ae w1.heap.size w1 V0:=by rw[hV0];exact qa (qc _) _
 clear hV0 q0 q1 q2 q3 q4 hcd;refine (HR.out _).mono ?_
 rintro e3 V ⟨rfl,hb3⟩
 have hb4:=qd hb0 hb3;replace k7:=k7.below hb4 k7.lt;replace k8:=k8.below hb4 k8.lt;replace k9:=k9.below hb4 k9.lt;replace hsW:=hsW.trans (Stp.of_below hb4);replace hSW:=hSW.below hb4;replace kD:=kD.below hb3 kD.lt;have c7:=k7.cell;have cD:=kD.cell;clear hb0 hb3 hb4 HR hbW;go_wp2_with fail;refine (HC.out _ _ hSW).mono ?_
 rintro e2 w2 ⟨rfl,hL⟩
 clear kD cD;obtain⟨o2,hS2,hI2,hs2⟩:=hL;have nt:∀ b,w.heap.size<=b->¬qh y (o1 b):=fun b q1=>uh (hbx b q1)
 have tg:∀ b,w.heap.size<=b->b<V.heap.size->CR y (o2 b):=fun b q1 q2=>by have:=hbx b q1;rw[<-hs2.tags b q2]at this;exact this
 have t8:=tg (w.heap.size+1) (by omega) k8.lt
 have t9:=tg (w.heap.size+1+1) (by omega) k9.lt
 replace k8:=k8.Ao hs2 (nt _ (by omega))
 replace k9:=k9.Ao hs2 (nt _ (by omega))
 have hs5:=hsW.trans hs2;have c8:=k8.cell;have z8:=k8.free;have l8:=k8.lt;have c9:=k9.cell;have z9:=k9.free;have l9:=k9.lt;have hres:=Qa (zu k8 k9 (by omega) ⟨b',n',⟨r0,r1,r2,r3,r4,r5⟩,⟨p0,p1,p2,p3,p4,p5⟩,hl'⟩ ⟨ak,ae,av⟩)
 have hrs:=Qa (ku hs5 (b6:=(w.heap.size+1)) (b7:=(w.heap.size+1+1)) (by omega) (by omega) ⟨b',n',⟨r0,r1,r2,r3,r4,r5⟩,⟨p0,p1,p2,p3,p4,p5⟩,hl'⟩ ⟨ak,ae,av⟩)
 have hrS:=Qa (hS2.bx (xj w2 (w.heap.size+1) (w.heap.size+1+1) (o:=o2) t8 t9 ⟨b',n',⟨r0,r1,r2,r3,r4,r5⟩,⟨p0,p1,p2,p3,p4,p5⟩,hl'⟩ ⟨ak,ae,av⟩));have HI2:=Qa hI2;clear k7 k8 k9 hs5 hs2 hsW hSW hS2 hI2 nt tg hbx h1 hS0 hBl HC c7;go_wp2_with fail;change bodyPost _ _ _ _ _ (jd w2 (w.heap.size+1) (w.heap.size+1+1) ⟨b',n',⟨r0,r1,r2,r3,r4,r5⟩,⟨p0,p1,p2,p3,p4,p5⟩,hl'⟩ ⟨ak,ae,av⟩);generalize jd w2 (w.heap.size+1) (w.heap.size+1+1) ⟨b',n',⟨r0,r1,r2,r3,r4,r5⟩,⟨p0,p1,p2,p3,p4,p5⟩,hl'⟩ ⟨ak,ae,av⟩=X at *;exact bodyPost_ret (qq _ _ 8 9 rfl rfl rfl hres.out.1 hres.out.2) rfl ⟨rfl,o2,hrS.out,HI2.out,hrs.out⟩
end
end Go.Proofs.YteehgedabdchcaaGreat
