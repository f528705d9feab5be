import Derived.Test.YteehgedabdchcaaGreatKab
import Derived.Test.YteehgedabdchcaaGreatKbb
set_option linter.all false
set_option maxRecDepth 1000000
set_option maxHeartbeats 0
open Go renaming World->Aa,Calls->Ab,Value->Ac
open Go.RowKit renaming Below->Ae
open Go.Value renaming int->I,tuple->Aj,agg->Ak
open Go.IntKind renaming i64->Z
open Go.Ending renaming returned->O
open Bool renaming or_eq_false_iff->Ad
open Go.Proofs.Tryz
open Go.Proofs.Tryz renaming prog->ARt
open Go.Obj renaming cells->ARu
namespace Go.Proofs.YteehgedabdchcaaGreat
open Go.RowKit Hp
attribute [local go_sem ↓] Go.wp_at_zero Go.wp_at_succ
def Ev (w:Aa)(v:Ac)(l:List As):Prop:=
 ∃ a c,v=.slice a l.length c/\∀ m d,l[m]?=some d->∃ b off,a=some ⟨b,off,none⟩/\w.cell? ⟨b,off+m*5,none⟩=some (I Z d.k)/\w.cell? ⟨b,off+m*5+1,none⟩=some (I Z d.A)/\w.cell? ⟨b,off+m*5+2,none⟩=some (I Z d.B)/\w.cell? ⟨b,off+m*5+3,none⟩=some (I Z d.i)/\w.cell? ⟨b,off+m*5+4,none⟩=some (I Z d.n)
def CM (w:Aa)(v:Ac)(l:List (List As)):Prop:=
 ∃ a c,v=.slice a l.length c/\∀ j ds,l[j]?=some ds->∃ b off,a=some ⟨b,off,none⟩/\∃ vd,w.cell? ⟨b,off+j,none⟩=some vd/\Ev w vd ds
def VG {w:Aa}{b k:Nat}{v:Ac}(h:w.cell? ⟨b,k,none⟩=some v):b<w.1.size:=by
 unfold World.cell? at h;split at h
 ·rename_i h';exact (Qf.1 h').1
 ·cases h
def cell_below {w w':Aa}{b k:Nat}{v:Ac}(h:w.cell? ⟨b,k,none⟩=some v)(hb:Ae w.1.size w w'):w'.cell? ⟨b,k,none⟩=some v:=
 (hb.cell (p:=⟨b,k,none⟩) (VG h)).trans h
def Ev.below {w w':Aa}{v:Ac}{l:List As}(h:Ev w v l)(hb:Ae w.1.size w w'):Ev w' v l:=by
 obtain⟨a,c,rfl,h⟩:=h;refine⟨a,c,rfl,fun m d hd=>?_⟩
 obtain⟨b,off,ha,h0,h1,h2,h3,h4⟩:=h m d hd;exact⟨b,off,ha,cell_below h0 hb,cell_below h1 hb,cell_below h2 hb,cell_below h3 hb,cell_below h4 hb⟩
def CM.below {w w':Aa}{v:Ac}{l:List (List As)}(h:CM w v l)(hb:Ae w.1.size w w'):CM w' v l:=by
 obtain⟨a,c,rfl,h⟩:=h;refine⟨a,c,rfl,fun j ds hj=>?_⟩
 obtain⟨b,off,ha,vd,h0,h1⟩:=h j ds hj;exact⟨b,off,ha,vd,cell_below h0 hb,h1.below hb⟩
def As.D (d:As):Pg.D:=⟨d.k,d.A,d.B,d.i,d.n⟩
section
variable {w w' : Aa} {o o' : Own} {y : A6} {S : An} {i : Nat}
def qk3 (hb hn a0 a1 a2 a3 a4 a5 s0 s1 s2 s3 s4 s5:Int) (hl:Bool) (vs:Ac) (a:Option Addr) (n c:Nat) (iv:Int) (hd:(n:Int)<=hb) (w:Aa) :
  Ab ARt 93 #[vs,I Z iv,.slice a n c,Ak #[I Z hb,I Z hn,I Z a0,I Z a1,I Z a2,I Z a3,I Z a4,I Z a5,I Z s0,I Z s1,I Z s2,I Z s3,I Z s4,I Z s5,.bool hl]] w fun e' w'=>e'=O (Aj #[AE.v ⟨hb,hn,⟨a0,a1,a2,a3,a4,a5⟩,⟨s0,s1,s2,s3,s4,s5⟩,hl⟩,A0.val ⟨0,0,0⟩])/\Ae w.1.size w w':=by
 have HD:=Qa (fun W=>by have:=bc ⟨hb,hn,⟨a0,a1,a2,a3,a4,a5⟩,⟨s0,s1,s2,s3,s4,s5⟩,hl⟩ a n c W;rw[show (decide ((⟨hb,hn,⟨a0,a1,a2,a3,a4,a5⟩,⟨s0,s1,s2,s3,s4,s5⟩,hl⟩:AE).b<0)||decide ((n:Int)<=(⟨hb,hn,⟨a0,a1,a2,a3,a4,a5⟩,⟨s0,s1,s2,s3,s4,s5⟩,hl⟩:AE).b))=true from by simp only[Bool.or_eq_true,decide_eq_true_eq];exact .inr hd]at this;exact this)
 have HD:=Qa (fun W=>show Ab ARt 96 #[.slice a n c,Ak #[I Z hb,I Z hn,I Z a0,I Z a1,I Z a2,I Z a3,I Z a4,I Z a5,I Z s0,I Z s1,I Z s2,I Z s3,I Z s4,I Z s5,.bool hl]] W fun e w'=>e=O (.bool true)/\Ae W.1.size W w' from HD.out W)
 clear hd;obtain⟨W,hW⟩:=Ja0 (((w.alloc (ARu #[I Z hb,I Z hn,I Z a0,I Z a1,I Z a2,I Z a3,I Z a4,I Z a5,I Z s0,I Z s1,I Z s2,I Z s3,I Z s4,I Z s5,.bool hl] 58)).alloc (ARu #[I Z 0,I Z 0,I Z 0,I Z 0,I Z 0,I Z 0,I Z 0,I Z 0,I Z 0,I Z 0,I Z 0,I Z 0,I Z 0,I Z 0,.bool false] 58)).alloc (ARu #[I Z 0,I Z 0,I Z 0] 54));have hbW:Ae w.1.size w W:=by rw[hW];exact qc (qc (qc (qd w) _) _) _
 have k7:Al W w.1.size #[I Z hb,I Z hn,I Z a0,I Z a1,I Z a2,I Z a3,I Z a4,I Z a5,I Z s0,I Z s1,I Z s2,I Z s3,I Z s4,I Z s5,.bool hl] 58:=by rw[hW];exact ((Al.new w _ _).alloc _).alloc _
 have k8:Al W (w.1.size+1) #[I Z 0,I Z 0,I Z 0,I Z 0,I Z 0,I Z 0,I Z 0,I Z 0,I Z 0,I Z 0,I Z 0,I Z 0,I Z 0,I Z 0,.bool false] 58:=by rw[hW];exact (Al.Ap _ _ _ _ _ (by simp) rfl).alloc _
 have k9:Al W (w.1.size+1+1) #[I Z 0,I Z 0,I Z 0] 54:=by rw[hW];exact Al.Ap _ _ _ _ _ (by simp) rfl
 go_enter func93,ntmps93;go_wp2_with fail;rw[<-hW];clear hW;refine (HD.out _).mono ?_
 rintro e1 w1 ⟨rfl,hb1⟩
 replace k7:=k7.below hb1 k7.lt;replace k8:=k8.below hb1 k8.lt;replace k9:=k9.below hb1 k9.lt;replace hbW:=qe hbW hb1;have c7:=k7.cell;have c8:=k8.cell;have z8:=k8.free;have l8:=k8.lt;have c9:=k9.cell;have z9:=k9.free;have l9:=k9.lt;have hres:=Qa (jt k8 k9 (by omega) ⟨hb,hn,⟨a0,a1,a2,a3,a4,a5⟩,⟨s0,s1,s2,s3,s4,s5⟩,hl⟩ ⟨0,0,0⟩)
 have hrb:=Qa (xy hbW (b6:=(w.1.size+1)) (b7:=(w.1.size+1+1)) (by omega) (by omega) ⟨hb,hn,⟨a0,a1,a2,a3,a4,a5⟩,⟨s0,s1,s2,s3,s4,s5⟩,hl⟩ ⟨0,0,0⟩)
 clear k7 k8 k9 hbW hb1 HD;go_wp2_with fail;change bodyPost _ _ _ _ _ (jy w1 (w.1.size+1) (w.1.size+1+1) ⟨hb,hn,⟨a0,a1,a2,a3,a4,a5⟩,⟨s0,s1,s2,s3,s4,s5⟩,hl⟩ ⟨0,0,0⟩);generalize jy w1 (w.1.size+1) (w.1.size+1+1) ⟨hb,hn,⟨a0,a1,a2,a3,a4,a5⟩,⟨s0,s1,s2,s3,s4,s5⟩,hl⟩ ⟨0,0,0⟩=X at *;exact bodyPost_ret (ze _ _ 8 9 rfl rfl rfl hres.out.1 hres.out.2) rfl ⟨rfl,hrb.out⟩
def WW (hS:Aq w o y S) (hb hn a0 a1 a2 a3 a4 a5 s0 s1 s2 s3 s4 s5:Int) (vb:Ac) (l:List (List As)) (hB:CM w vb l) (hb1:0<=hb) (hb2:hb<(l.length:Int)) (hn1:0<=hn)
  (S':An) (h':AE) (a':A0)
  (call:∀ X o2,Aq X o2 y S->Ab ARt 152 #[ptr y.sb,I Z i,I Z l.length,Ak #[I Z hb,I Z hn,I Z a0,I Z a1,I Z a2,I Z a3,I Z a4,I Z a5,I Z s0,I Z s1,I Z s2,I Z s3,I Z s4,I Z s5,.bool false]] X fun e' w'=>e'=O (Aj #[h'.v,a'.val])/\Left y S' o2 X w') :
  Ab ARt 93 #[ptr y.sb,I Z i,vb,Ak #[I Z hb,I Z hn,I Z a0,I Z a1,I Z a2,I Z a3,I Z a4,I Z a5,I Z s0,I Z s1,I Z s2,I Z s3,I Z s4,I Z s5,.bool false]] w fun e' w'=>e'=O (Aj #[h'.v,a'.val])/\Left y S' o w w':=by
 obtain⟨o1,ho1⟩:∃ o1,o1=ext o w.1.size (y.l.id+1,0):=⟨_,rfl⟩;have h1:=hS.retag (o':=o1) fun b hb=>by rw[ho1];exact qr hb
 have hS0:Stp (qo y) o o1 w w:=by rw[ho1];exact (Stp.refl _ o w).ext _ _ (Qk _)
 have hbx:∀ b,w.1.size<=b->CL y (o1 b):=fun b hb=>by rw[ho1];exact qz hb
 clear ho1 hS;obtain⟨a,c,rfl,hBl⟩:=hB;have HD:=Qa (fun W=>by have:=bc ⟨hb,hn,⟨a0,a1,a2,a3,a4,a5⟩,⟨s0,s1,s2,s3,s4,s5⟩,false⟩ a l.length c W;rw[show (decide ((⟨hb,hn,⟨a0,a1,a2,a3,a4,a5⟩,⟨s0,s1,s2,s3,s4,s5⟩,false⟩:AE).b<0)||decide ((l.length:Int)<=(⟨hb,hn,⟨a0,a1,a2,a3,a4,a5⟩,⟨s0,s1,s2,s3,s4,s5⟩,false⟩:AE).b))=false from by simp only[Ad,decide_eq_false_iff_not];omega]at this;exact this)
 have HD:=Qa (fun W=>show Ab ARt 96 #[.slice a l.length c,Ak #[I Z hb,I Z hn,I Z a0,I Z a1,I Z a2,I Z a3,I Z a4,I Z a5,I Z s0,I Z s1,I Z s2,I Z s3,I Z s4,I Z s5,.bool false]] W fun e w'=>e=O (.bool false)/\Ae W.1.size W w' from HD.out W)
 obtain⟨b',n',⟨r0,r1,r2,r3,r4,r5⟩,⟨p0,p1,p2,p3,p4,p5⟩,hl'⟩:=h';obtain⟨ak,ae,av⟩:=a';have HC:=Qa (fun X o2 (hx:Aq X o2 y S)=>show Ab ARt 152 #[ptr y.sb,I Z i,I Z l.length,Ak #[I Z hb,I Z hn,I Z a0,I Z a1,I Z a2,I Z a3,I Z a4,I Z a5,I Z s0,I Z s1,I Z s2,I Z s3,I Z s4,I Z s5,.bool false]] X fun e' w'=>e'=O (Aj #[Ak #[I Z b',I Z n',I Z r0,I Z r1,I Z r2,I Z r3,I Z r4,I Z r5,I Z p0,I Z p1,I Z p2,I Z p3,I Z p4,I Z p5,.bool hl'],Ak #[I Z ak,I Z ae,I Z av]])/\Left y S' o2 X w' from call X o2 hx)
 clear call;obtain⟨W,hW⟩:=Ja0 (((w.alloc (ARu #[I Z hb,I Z hn,I Z a0,I Z a1,I Z a2,I Z a3,I Z a4,I Z a5,I Z s0,I Z s1,I Z s2,I Z s3,I Z s4,I Z s5,.bool false] 58)).alloc (ARu #[I Z 0,I Z 0,I Z 0,I Z 0,I Z 0,I Z 0,I Z 0,I Z 0,I Z 0,I Z 0,I Z 0,I Z 0,I Z 0,I Z 0,.bool false] 58)).alloc (ARu #[I Z 0,I Z 0,I Z 0] 54));have hbW:Ae w.1.size w W:=by rw[hW];exact qc (qc (qc (qd w) _) _) _
 have k7:Al W w.1.size #[I Z hb,I Z hn,I Z a0,I Z a1,I Z a2,I Z a3,I Z a4,I Z a5,I Z s0,I Z s1,I Z s2,I Z s3,I Z s4,I Z s5,.bool false] 58:=by rw[hW];exact ((Al.new w _ _).alloc _).alloc _
 have k8:Al W (w.1.size+1) #[I Z 0,I Z 0,I Z 0,I Z 0,I Z 0,I Z 0,I Z 0,I Z 0,I Z 0,I Z 0,I Z 0,I Z 0,I Z 0,I Z 0,.bool false] 58:=by rw[hW];exact (Al.Ap _ _ _ _ _ (by simp) rfl).alloc _
 have k9:Al W (w.1.size+1+1) #[I Z 0,I Z 0,I Z 0] 54:=by rw[hW];exact Al.Ap _ _ _ _ _ (by simp) rfl
 have cZ:Stp (qo y) o o1 w W:=hS0.trans (Stp.of_below hbW);have hnn:(hn:Int)>=0:=hn1;go_enter func93,ntmps93;go_wp2_with fail;rw[<-hW];clear hW;refine (HD.out _).mono ?_
 rintro e1 w1 ⟨rfl,hb1'⟩
 replace k7:=k7.below hb1' k7.lt;replace k8:=k8.below hb1' k8.lt;replace k9:=k9.below hb1' k9.lt;replace hbW:=qe hbW hb1';replace cZ:=cZ.trans (Stp.of_below hb1');have hSW:=h1.below hbW;have c7:=k7.cell;clear hb1' HD;obtain⟨V,hV⟩:=Ja0 w1;rw[<-hV]at k7 k8 k9 hbW cZ hSW c7 ⊢;clear hV;go_wp2_with fail;refine (HC.out _ _ hSW).mono ?_
 rintro e2 w2 ⟨rfl,hL⟩
 obtain⟨o2,hS2,hI2,hs2⟩:=hL;have nt:∀ b,w.1.size<=b->¬qo y (o1 b):=fun b q1=>pw (hbx b q1)
 have tg:∀ b,w.1.size<=b->b<V.1.size->CL y (o2 b):=fun b q1 q2=>by have:=hbx b q1;rw[<-hs2.tags b q2]at this;exact this
 have t8:=tg (w.1.size+1) (by omega) k8.lt
 have t9:=tg (w.1.size+1+1) (by omega) k9.lt
 replace k8:=k8.Ao hs2 (nt _ (by omega))
 replace k9:=k9.Ao hs2 (nt _ (by omega))
 have hs5:=cZ.trans hs2;have c8:=k8.cell;have z8:=k8.free;have l8:=k8.lt;have c9:=k9.cell;have z9:=k9.free;have l9:=k9.lt;have hres:=Qa (jt k8 k9 (by omega) ⟨b',n',⟨r0,r1,r2,r3,r4,r5⟩,⟨p0,p1,p2,p3,p4,p5⟩,hl'⟩ ⟨ak,ae,av⟩)
 have hrs:=Qa (wh hs5 (b6:=(w.1.size+1)) (b7:=(w.1.size+1+1)) (by omega) (by omega) ⟨b',n',⟨r0,r1,r2,r3,r4,r5⟩,⟨p0,p1,p2,p3,p4,p5⟩,hl'⟩ ⟨ak,ae,av⟩)
 have fO:=Qa (hS2.bx (ya w2 (w.1.size+1) (w.1.size+1+1) (o:=o2) t8 t9 ⟨b',n',⟨r0,r1,r2,r3,r4,r5⟩,⟨p0,p1,p2,p3,p4,p5⟩,hl'⟩ ⟨ak,ae,av⟩));have HI2:=Qa hI2;clear k7 k8 k9 hs5 hs2 cZ hSW hS2 hI2 nt tg hbx h1 hS0 hBl HC c7;go_wp2_with fail;change bodyPost _ _ _ _ _ (jy w2 (w.1.size+1) (w.1.size+1+1) ⟨b',n',⟨r0,r1,r2,r3,r4,r5⟩,⟨p0,p1,p2,p3,p4,p5⟩,hl'⟩ ⟨ak,ae,av⟩);generalize jy w2 (w.1.size+1) (w.1.size+1+1) ⟨b',n',⟨r0,r1,r2,r3,r4,r5⟩,⟨p0,p1,p2,p3,p4,p5⟩,hl'⟩ ⟨ak,ae,av⟩=X at *;exact bodyPost_ret (ze _ _ 8 9 rfl rfl rfl hres.out.1 hres.out.2) rfl ⟨rfl,o2,fO.out,HI2.out,hrs.out⟩
def Wy (hS:Aq w o y S) (hb hn a0 a1 a2 a3 a4 a5 s0 s1 s2 s3 s4 s5:Int) (vb:Ac) (l:List (List As)) (hB:CM w vb l) (hb1:0<=hb) (hb2:hb<(l.length:Int)) (hn1:0<=hn) (hnd:∀ ds,l[hb.toNat]?=some ds->(ds.length:Int)<=hn)
  (S':An) (h':AE) (a':A0)
  (call:∀ X o2,Aq X o2 y S->Ab ARt 153 #[ptr y.sb,I Z i,Ak #[I Z hb,I Z hn,I Z a0,I Z a1,I Z a2,I Z a3,I Z a4,I Z a5,I Z s0,I Z s1,I Z s2,I Z s3,I Z s4,I Z s5,.bool true]] X fun e' w'=>e'=O (Aj #[h'.v,a'.val])/\Left y S' o2 X w') :
  Ab ARt 93 #[ptr y.sb,I Z i,vb,Ak #[I Z hb,I Z hn,I Z a0,I Z a1,I Z a2,I Z a3,I Z a4,I Z a5,I Z s0,I Z s1,I Z s2,I Z s3,I Z s4,I Z s5,.bool true]] w fun e' w'=>e'=O (Aj #[h'.v,a'.val])/\Left y S' o w w':=by
 obtain⟨o1,ho1⟩:∃ o1,o1=ext o w.1.size (y.l.id+1,0):=⟨_,rfl⟩;have h1:=hS.retag (o':=o1) fun b hb=>by rw[ho1];exact qr hb
 have hS0:Stp (qo y) o o1 w w:=by rw[ho1];exact (Stp.refl _ o w).ext _ _ (Qk _)
 have hbx:∀ b,w.1.size<=b->CL y (o1 b):=fun b hb=>by rw[ho1];exact qz hb
 clear ho1 hS;obtain⟨a,c,rfl,hBl⟩:=hB;have HD:=Qa (fun W=>by have:=bc ⟨hb,hn,⟨a0,a1,a2,a3,a4,a5⟩,⟨s0,s1,s2,s3,s4,s5⟩,true⟩ a l.length c W;rw[show (decide ((⟨hb,hn,⟨a0,a1,a2,a3,a4,a5⟩,⟨s0,s1,s2,s3,s4,s5⟩,true⟩:AE).b<0)||decide ((l.length:Int)<=(⟨hb,hn,⟨a0,a1,a2,a3,a4,a5⟩,⟨s0,s1,s2,s3,s4,s5⟩,true⟩:AE).b))=false from by simp only[Ad,decide_eq_false_iff_not];omega]at this;exact this)
 have HD:=Qa (fun W=>show Ab ARt 96 #[.slice a l.length c,Ak #[I Z hb,I Z hn,I Z a0,I Z a1,I Z a2,I Z a3,I Z a4,I Z a5,I Z s0,I Z s1,I Z s2,I Z s3,I Z s4,I Z s5,.bool true]] W fun e w'=>e=O (.bool false)/\Ae W.1.size W w' from HD.out W)
 obtain⟨b',n',⟨r0,r1,r2,r3,r4,r5⟩,⟨p0,p1,p2,p3,p4,p5⟩,hl'⟩:=h';obtain⟨ak,ae,av⟩:=a';have HC:=Qa (fun X o2 (hx:Aq X o2 y S)=>show Ab ARt 153 #[ptr y.sb,I Z i,Ak #[I Z hb,I Z hn,I Z a0,I Z a1,I Z a2,I Z a3,I Z a4,I Z a5,I Z s0,I Z s1,I Z s2,I Z s3,I Z s4,I Z s5,.bool true]] X fun e' w'=>e'=O (Aj #[Ak #[I Z b',I Z n',I Z r0,I Z r1,I Z r2,I Z r3,I Z r4,I Z r5,I Z p0,I Z p1,I Z p2,I Z p3,I Z p4,I Z p5,.bool hl'],Ak #[I Z ak,I Z ae,I Z av]])/\Left y S' o2 X w' from call X o2 hx)
 clear call;obtain⟨W,hW⟩:=Ja0 (((w.alloc (ARu #[I Z hb,I Z hn,I Z a0,I Z a1,I Z a2,I Z a3,I Z a4,I Z a5,I Z s0,I Z s1,I Z s2,I Z s3,I Z s4,I Z s5,.bool true] 58)).alloc (ARu #[I Z 0,I Z 0,I Z 0,I Z 0,I Z 0,I Z 0,I Z 0,I Z 0,I Z 0,I Z 0,I Z 0,I Z 0,I Z 0,I Z 0,.bool false] 58)).alloc (ARu #[I Z 0,I Z 0,I Z 0] 54));have hbW:Ae w.1.size w W:=by rw[hW];exact qc (qc (qc (qd w) _) _) _
 have k7:Al W w.1.size #[I Z hb,I Z hn,I Z a0,I Z a1,I Z a2,I Z a3,I Z a4,I Z a5,I Z s0,I Z s1,I Z s2,I Z s3,I Z s4,I Z s5,.bool true] 58:=by rw[hW];exact ((Al.new w _ _).alloc _).alloc _
 have k8:Al W (w.1.size+1) #[I Z 0,I Z 0,I Z 0,I Z 0,I Z 0,I Z 0,I Z 0,I Z 0,I Z 0,I Z 0,I Z 0,I Z 0,I Z 0,I Z 0,.bool false] 58:=by rw[hW];exact (Al.Ap _ _ _ _ _ (by simp) rfl).alloc _
 have k9:Al W (w.1.size+1+1) #[I Z 0,I Z 0,I Z 0] 54:=by rw[hW];exact Al.Ap _ _ _ _ _ (by simp) rfl
 have cZ:Stp (qo y) o o1 w W:=hS0.trans (Stp.of_below hbW);have hnn:(hn:Int)>=0:=hn1;go_enter func93,ntmps93;go_wp2_with fail;rw[<-hW];clear hW;refine (HD.out _).mono ?_
 rintro e1 w1 ⟨rfl,hb1'⟩
 replace k7:=k7.below hb1' k7.lt;replace k8:=k8.below hb1' k8.lt;replace k9:=k9.below hb1' k9.lt;replace hbW:=qe hbW hb1';replace cZ:=cZ.trans (Stp.of_below hb1');have hSW:=h1.below hbW;have c7:=k7.cell;clear hb1' HD;obtain⟨j,rfl⟩:∃ j:Nat,hb=j:=⟨hb.toNat,by omega⟩
 obtain⟨ds,hds⟩:∃ ds,l[j]?=some ds:=⟨l[j]'(by omega),Qb _⟩
 obtain⟨bb,off,rfl,vd,hcd,hdd⟩:=hBl j ds hds;obtain⟨ad,cd,rfl,hdc⟩:=hdd;have Afj:=cell_below hcd hbW;have jL:(j:Int)<(l.length:Int):=hb2;have hle:(ds.length:Int)<=hn:=hnd ds (by rw[Int.toNat_natCast];exact hds)
 clear hnd hdc;obtain⟨V,hV⟩:=Ja0 w1;rw[<-hV]at k7 k8 k9 hbW cZ hSW c7 Afj ⊢;clear hV;go_wp2_with fail;refine (HC.out _ _ hSW).mono ?_
 rintro e2 w2 ⟨rfl,hL⟩
 clear hcd hds Afj;obtain⟨o2,hS2,hI2,hs2⟩:=hL;have nt:∀ b,w.1.size<=b->¬qo y (o1 b):=fun b q1=>pw (hbx b q1)
 have tg:∀ b,w.1.size<=b->b<V.1.size->CL y (o2 b):=fun b q1 q2=>by have:=hbx b q1;rw[<-hs2.tags b q2]at this;exact this
 have t8:=tg (w.1.size+1) (by omega) k8.lt
 have t9:=tg (w.1.size+1+1) (by omega) k9.lt
 replace k8:=k8.Ao hs2 (nt _ (by omega))
 replace k9:=k9.Ao hs2 (nt _ (by omega))
 have hs5:=cZ.trans hs2;have c8:=k8.cell;have z8:=k8.free;have l8:=k8.lt;have c9:=k9.cell;have z9:=k9.free;have l9:=k9.lt;have hres:=Qa (jt k8 k9 (by omega) ⟨b',n',⟨r0,r1,r2,r3,r4,r5⟩,⟨p0,p1,p2,p3,p4,p5⟩,hl'⟩ ⟨ak,ae,av⟩)
 have hrs:=Qa (wh hs5 (b6:=(w.1.size+1)) (b7:=(w.1.size+1+1)) (by omega) (by omega) ⟨b',n',⟨r0,r1,r2,r3,r4,r5⟩,⟨p0,p1,p2,p3,p4,p5⟩,hl'⟩ ⟨ak,ae,av⟩)
 have fO:=Qa (hS2.bx (ya w2 (w.1.size+1) (w.1.size+1+1) (o:=o2) t8 t9 ⟨b',n',⟨r0,r1,r2,r3,r4,r5⟩,⟨p0,p1,p2,p3,p4,p5⟩,hl'⟩ ⟨ak,ae,av⟩));have HI2:=Qa hI2;clear k7 k8 k9 hs5 hs2 cZ hSW hS2 hI2 nt tg hbx h1 hS0 hBl HC c7;go_wp2_with fail;change bodyPost _ _ _ _ _ (jy w2 (w.1.size+1) (w.1.size+1+1) ⟨b',n',⟨r0,r1,r2,r3,r4,r5⟩,⟨p0,p1,p2,p3,p4,p5⟩,hl'⟩ ⟨ak,ae,av⟩);generalize jy w2 (w.1.size+1) (w.1.size+1+1) ⟨b',n',⟨r0,r1,r2,r3,r4,r5⟩,⟨p0,p1,p2,p3,p4,p5⟩,hl'⟩ ⟨ak,ae,av⟩=X at *;exact bodyPost_ret (ze _ _ 8 9 rfl rfl rfl hres.out.1 hres.out.2) rfl ⟨rfl,o2,fO.out,HI2.out,hrs.out⟩
def qkw (hS:Aq w o y S) (hb hn a0 a1 a2 a3 a4 a5 s0 s1 s2 s3 s4 s5:Int) (vb:Ac) (l:List (List As)) (hB:CM w vb l) (hb1:0<=hb) (hb2:hb<(l.length:Int)) (hn1:0<=hn) (d:As) (hnd:∃ ds,l[hb.toNat]?=some ds/\ds[hn.toNat]?=some d) (hrt:Pg.right d.D=true)
  (S':An) (h':AE) (a':A0)
  (call:∀ X o2,Aq X o2 y S->Ab ARt 154 #[ptr y.sb,I Z i,d.v,Ak #[I Z hb,I Z hn,I Z a0,I Z a1,I Z a2,I Z a3,I Z a4,I Z a5,I Z s0,I Z s1,I Z s2,I Z s3,I Z s4,I Z s5,.bool true]] X fun e' w'=>e'=O (Aj #[h'.v,a'.val])/\Left y S' o2 X w') :
  Ab ARt 93 #[ptr y.sb,I Z i,vb,Ak #[I Z hb,I Z hn,I Z a0,I Z a1,I Z a2,I Z a3,I Z a4,I Z a5,I Z s0,I Z s1,I Z s2,I Z s3,I Z s4,I Z s5,.bool true]] w fun e' w'=>e'=O (Aj #[h'.v,a'.val])/\Left y S' o w w':=by
 obtain⟨o1,ho1⟩:∃ o1,o1=ext o w.1.size (y.l.id+1,0):=⟨_,rfl⟩;have h1:=hS.retag (o':=o1) fun b hb=>by rw[ho1];exact qr hb
 have hS0:Stp (qo y) o o1 w w:=by rw[ho1];exact (Stp.refl _ o w).ext _ _ (Qk _)
 have hbx:∀ b,w.1.size<=b->CL y (o1 b):=fun b hb=>by rw[ho1];exact qz hb
 clear ho1 hS;obtain⟨a,c,rfl,hBl⟩:=hB;have HD:=Qa (fun W=>by have:=bc ⟨hb,hn,⟨a0,a1,a2,a3,a4,a5⟩,⟨s0,s1,s2,s3,s4,s5⟩,true⟩ a l.length c W;rw[show (decide ((⟨hb,hn,⟨a0,a1,a2,a3,a4,a5⟩,⟨s0,s1,s2,s3,s4,s5⟩,true⟩:AE).b<0)||decide ((l.length:Int)<=(⟨hb,hn,⟨a0,a1,a2,a3,a4,a5⟩,⟨s0,s1,s2,s3,s4,s5⟩,true⟩:AE).b))=false from by simp only[Ad,decide_eq_false_iff_not];omega]at this;exact this)
 have HD:=Qa (fun W=>show Ab ARt 96 #[.slice a l.length c,Ak #[I Z hb,I Z hn,I Z a0,I Z a1,I Z a2,I Z a3,I Z a4,I Z a5,I Z s0,I Z s1,I Z s2,I Z s3,I Z s4,I Z s5,.bool true]] W fun e w'=>e=O (.bool false)/\Ae W.1.size W w' from HD.out W)
 obtain⟨b',n',⟨r0,r1,r2,r3,r4,r5⟩,⟨p0,p1,p2,p3,p4,p5⟩,hl'⟩:=h';obtain⟨ak,ae,av⟩:=a';have HC:=Qa (fun X o2 (hx:Aq X o2 y S)=>show Ab ARt 154 #[ptr y.sb,I Z i,d.v,Ak #[I Z hb,I Z hn,I Z a0,I Z a1,I Z a2,I Z a3,I Z a4,I Z a5,I Z s0,I Z s1,I Z s2,I Z s3,I Z s4,I Z s5,.bool true]] X fun e' w'=>e'=O (Aj #[Ak #[I Z b',I Z n',I Z r0,I Z r1,I Z r2,I Z r3,I Z r4,I Z r5,I Z p0,I Z p1,I Z p2,I Z p3,I Z p4,I Z p5,.bool hl'],Ak #[I Z ak,I Z ae,I Z av]])/\Left y S' o2 X w' from call X o2 hx)
 clear call;obtain⟨W,hW⟩:=Ja0 (((w.alloc (ARu #[I Z hb,I Z hn,I Z a0,I Z a1,I Z a2,I Z a3,I Z a4,I Z a5,I Z s0,I Z s1,I Z s2,I Z s3,I Z s4,I Z s5,.bool true] 58)).alloc (ARu #[I Z 0,I Z 0,I Z 0,I Z 0,I Z 0,I Z 0,I Z 0,I Z 0,I Z 0,I Z 0,I Z 0,I Z 0,I Z 0,I Z 0,.bool false] 58)).alloc (ARu #[I Z 0,I Z 0,I Z 0] 54));have hbW:Ae w.1.size w W:=by rw[hW];exact qc (qc (qc (qd w) _) _) _
 have k7:Al W w.1.size #[I Z hb,I Z hn,I Z a0,I Z a1,I Z a2,I Z a3,I Z a4,I Z a5,I Z s0,I Z s1,I Z s2,I Z s3,I Z s4,I Z s5,.bool true] 58:=by rw[hW];exact ((Al.new w _ _).alloc _).alloc _
 have k8:Al W (w.1.size+1) #[I Z 0,I Z 0,I Z 0,I Z 0,I Z 0,I Z 0,I Z 0,I Z 0,I Z 0,I Z 0,I Z 0,I Z 0,I Z 0,I Z 0,.bool false] 58:=by rw[hW];exact (Al.Ap _ _ _ _ _ (by simp) rfl).alloc _
 have k9:Al W (w.1.size+1+1) #[I Z 0,I Z 0,I Z 0] 54:=by rw[hW];exact Al.Ap _ _ _ _ _ (by simp) rfl
 have cZ:Stp (qo y) o o1 w W:=hS0.trans (Stp.of_below hbW);have hnn:(hn:Int)>=0:=hn1;go_enter func93,ntmps93;go_wp2_with fail;rw[<-hW];clear hW;refine (HD.out _).mono ?_
 rintro e1 w1 ⟨rfl,hb1'⟩
 replace k7:=k7.below hb1' k7.lt;replace k8:=k8.below hb1' k8.lt;replace k9:=k9.below hb1' k9.lt;replace hbW:=qe hbW hb1';replace cZ:=cZ.trans (Stp.of_below hb1');have hSW:=h1.below hbW;have c7:=k7.cell;clear hb1' HD;obtain⟨ds,hds,il⟩:=hnd;obtain⟨j,rfl⟩:∃ j:Nat,hb=j:=⟨hb.toNat,by omega⟩
 obtain⟨m,rfl⟩:∃ m:Nat,hn=m:=⟨hn.toNat,by omega⟩
 rw[Int.toNat_natCast]at hds il;obtain⟨bb,off,rfl,vd,hcd,hdd⟩:=hBl j ds hds;obtain⟨ad,cd,rfl,hdc⟩:=hdd;obtain⟨b5,AGs,rfl,q0,q1,q2,q3,q4⟩:=hdc m d il;have jL:(j:Int)<(l.length:Int):=hb2;have mL:(m:Int)<(ds.length:Int):=by have:=(Qc.1 il).1;omega
 have HR:=Qa (fun X=>show Ab ARt 147 #[Ak #[I Z d.k,I Z d.A,I Z d.B,I Z d.i,I Z d.n]] X fun e w'=>e=O (.bool true)/\Ae X.1.size X w' from by have:=br d.k d.A d.B d.i d.n X;rw[show Pg.right ⟨d.k,d.A,d.B,d.i,d.n⟩=true from hrt]at this;exact this)
 have HC:=Qa (fun X o2 (h:Aq X o2 y S)=>show Ab ARt 154 #[ptr y.sb,I Z i,Ak #[I Z d.k,I Z d.A,I Z d.B,I Z d.i,I Z d.n],Ak #[I Z (j:Int),I Z (m:Int),I Z a0,I Z a1,I Z a2,I Z a3,I Z a4,I Z a5,I Z s0,I Z s1,I Z s2,I Z s3,I Z s4,I Z s5,.bool true]] X fun e' w'=>e'=O (Aj #[Ak #[I Z b',I Z n',I Z r0,I Z r1,I Z r2,I Z r3,I Z r4,I Z r5,I Z p0,I Z p1,I Z p2,I Z p3,I Z p4,I Z p5,.bool hl'],Ak #[I Z ak,I Z ae,I Z av]])/\Left y S' o2 X w' from HC.out X o2 h)
 replace q0:=cell_below q0 hbW;replace q1:=cell_below q1 hbW;replace q2:=cell_below q2 hbW;replace q3:=cell_below q3 hbW;replace q4:=cell_below q4 hbW;replace hcd:=cell_below hcd hbW;clear hdc hds il hrt;go_wp2_with fail;obtain⟨V0,hV0⟩:=Ja0 (w1.alloc (ARu #[I Z d.k,I Z d.A,I Z d.B,I Z d.i,I Z d.n] 73));rw[<-hV0];have kD:Al V0 w1.1.size #[I Z d.k,I Z d.A,I Z d.B,I Z d.i,I Z d.n] 73:=by rw[hV0];exact Al.new _ _ _
 have hb0:Ae w1.1.size w1 V0:=by rw[hV0];exact qc (qd _) _
 clear hV0 q0 q1 q2 q3 q4 hcd;refine (HR.out _).mono ?_
 rintro e3 V ⟨rfl,hb3⟩
 have hb4:=qe hb0 hb3;replace k7:=k7.below hb4 k7.lt;replace k8:=k8.below hb4 k8.lt;replace k9:=k9.below hb4 k9.lt;replace cZ:=cZ.trans (Stp.of_below hb4);replace hSW:=hSW.below hb4;replace kD:=kD.below hb3 kD.lt;have c7:=k7.cell;have cD:=kD.cell;clear hb0 hb3 hb4 HR hbW;go_wp2_with fail;refine (HC.out _ _ hSW).mono ?_
 rintro e2 w2 ⟨rfl,hL⟩
 clear kD cD;obtain⟨o2,hS2,hI2,hs2⟩:=hL;have nt:∀ b,w.1.size<=b->¬qo y (o1 b):=fun b q1=>pw (hbx b q1)
 have tg:∀ b,w.1.size<=b->b<V.1.size->CL y (o2 b):=fun b q1 q2=>by have:=hbx b q1;rw[<-hs2.tags b q2]at this;exact this
 have t8:=tg (w.1.size+1) (by omega) k8.lt
 have t9:=tg (w.1.size+1+1) (by omega) k9.lt
 replace k8:=k8.Ao hs2 (nt _ (by omega))
 replace k9:=k9.Ao hs2 (nt _ (by omega))
 have hs5:=cZ.trans hs2;have c8:=k8.cell;have z8:=k8.free;have l8:=k8.lt;have c9:=k9.cell;have z9:=k9.free;have l9:=k9.lt;have hres:=Qa (jt k8 k9 (by omega) ⟨b',n',⟨r0,r1,r2,r3,r4,r5⟩,⟨p0,p1,p2,p3,p4,p5⟩,hl'⟩ ⟨ak,ae,av⟩)
 have hrs:=Qa (wh hs5 (b6:=(w.1.size+1)) (b7:=(w.1.size+1+1)) (by omega) (by omega) ⟨b',n',⟨r0,r1,r2,r3,r4,r5⟩,⟨p0,p1,p2,p3,p4,p5⟩,hl'⟩ ⟨ak,ae,av⟩)
 have fO:=Qa (hS2.bx (ya w2 (w.1.size+1) (w.1.size+1+1) (o:=o2) t8 t9 ⟨b',n',⟨r0,r1,r2,r3,r4,r5⟩,⟨p0,p1,p2,p3,p4,p5⟩,hl'⟩ ⟨ak,ae,av⟩));have HI2:=Qa hI2;clear k7 k8 k9 hs5 hs2 cZ hSW hS2 hI2 nt tg hbx h1 hS0 hBl HC c7;go_wp2_with fail;change bodyPost _ _ _ _ _ (jy w2 (w.1.size+1) (w.1.size+1+1) ⟨b',n',⟨r0,r1,r2,r3,r4,r5⟩,⟨p0,p1,p2,p3,p4,p5⟩,hl'⟩ ⟨ak,ae,av⟩);generalize jy w2 (w.1.size+1) (w.1.size+1+1) ⟨b',n',⟨r0,r1,r2,r3,r4,r5⟩,⟨p0,p1,p2,p3,p4,p5⟩,hl'⟩ ⟨ak,ae,av⟩=X at *;exact bodyPost_ret (ze _ _ 8 9 rfl rfl rfl hres.out.1 hres.out.2) rfl ⟨rfl,o2,fO.out,HI2.out,hrs.out⟩
