import Derived.Test.YtgndecmkhhdkjaaGreatKab
import Derived.Test.YtgndecmkhhdkjaaGreatKao
set_option linter.all false
set_option maxRecDepth 1000000
set_option maxHeartbeats 0
open Go renaming World->Aa,Calls->Ab,Value->Ac
open Go.RowKit renaming Below->Ae
open Go.Value renaming int->I,tuple->Ak,agg->Al
open Go.IntKind renaming i64->Z
open Go.Ending renaming returned->O
open Bool renaming or_eq_false_iff->Ad
open Go.Proofs.Tryz
open Go.Proofs.Tryz renaming prog->ANa
open Go.Obj renaming cells->ANb
namespace Go.Proofs.YtgndecmkhhdkjaaGreat
open Go.RowKit Hp
attribute [local go_sem ↓] Go.wp_at_zero Go.wp_at_succ
def Fc (w:Aa)(v:Ac)(l:List AD):Prop:=
 ∃ a c,v=.slice a l.length c/\∀ m d,l[m]?=some d->∃ b off,a=some ⟨b,off,none⟩/\w.cell? ⟨b,off+m*5,none⟩=some (I Z d.k)/\w.cell? ⟨b,off+m*5+1,none⟩=some (I Z d.A)/\w.cell? ⟨b,off+m*5+2,none⟩=some (I Z d.B)/\w.cell? ⟨b,off+m*5+3,none⟩=some (I Z d.i)/\w.cell? ⟨b,off+m*5+4,none⟩=some (I Z d.n)
def Dw (w:Aa)(v:Ac)(l:List (List AD)):Prop:=
 ∃ a c,v=.slice a l.length c/\∀ j ds,l[j]?=some ds->∃ b off,a=some ⟨b,off,none⟩/\∃ vd,w.cell? ⟨b,off+j,none⟩=some vd/\Fc w vd ds
def SN {w:Aa}{b k:Nat}{v:Ac}(h:w.cell? ⟨b,k,none⟩=some v):b<w.1.size:=by
 unfold World.cell? at h;split at h
 ·rename_i h';exact (Qf.1 h').1
 ·cases h
def cell_below {w w':Aa}{b k:Nat}{v:Ac}(h:w.cell? ⟨b,k,none⟩=some v)(hb:Ae w w w'):w'.cell? ⟨b,k,none⟩=some v:=
 (hb.cell (p:=⟨b,k,none⟩) (SN h)).trans h
def Fc.below {w w':Aa}{v:Ac}{l:List AD}(h:Fc w v l)(hb:Ae w w w'):Fc w' v l:=by
 obtain⟨a,c,rfl,h⟩:=h;refine⟨a,c,rfl,fun m d hd=>?_⟩
 obtain⟨b,off,ha,h0,h1,h2,h3,h4⟩:=h m d hd;exact⟨b,off,ha,cell_below h0 hb,cell_below h1 hb,cell_below h2 hb,cell_below h3 hb,cell_below h4 hb⟩
def Dw.below {w w':Aa}{v:Ac}{l:List (List AD)}(h:Dw w v l)(hb:Ae w w w'):Dw w' v l:=by
 obtain⟨a,c,rfl,h⟩:=h;refine⟨a,c,rfl,fun j ds hj=>?_⟩
 obtain⟨b,off,ha,vd,h0,h1⟩:=h j ds hj;exact⟨b,off,ha,vd,cell_below h0 hb,h1.below hb⟩
def AD.D (d:AD):Pg.D:=⟨d.k,d.A,d.B,d.i,d.n⟩
section
variable {w w' : Aa} {o o' : Own} {y : Bl} {S : Am} {i : Nat}
def qmp (hb hn a0 a1 a2 a3 a4 a5 s0 s1 s2 s3 s4 s5:Int) (hl:Bool) (vs:Ac) (a:Option Addr) (n c:Nat) (iv:Int) (hd:(n:Int)<=hb) (w:Aa) :
  Ab ANa 29 #[vs,iv,.slice a n c,Al #[hb,hn,a0,a1,a2,a3,a4,a5,s0,s1,s2,s3,s4,s5,hl]] w fun e' w'=>e'=O (Ak #[AE.v ⟨hb,hn,⟨a0,a1,a2,a3,a4,a5⟩,⟨s0,s1,s2,s3,s4,s5⟩,hl⟩,BD.val ⟨0,0,0⟩])/\Ae w w w':=by
 have HD:=Qa (fun W=>by have:=mn ⟨hb,hn,⟨a0,a1,a2,a3,a4,a5⟩,⟨s0,s1,s2,s3,s4,s5⟩,hl⟩ a n c W;rw[show (decide ((⟨hb,hn,⟨a0,a1,a2,a3,a4,a5⟩,⟨s0,s1,s2,s3,s4,s5⟩,hl⟩:AE).b<0)||decide ((n:Int)<=(⟨hb,hn,⟨a0,a1,a2,a3,a4,a5⟩,⟨s0,s1,s2,s3,s4,s5⟩,hl⟩:AE).b))=true from by simp only[Bool.or_eq_true,decide_eq_true_eq];exact .inr hd]at this;exact this)
 have HD:=Qa (fun W=>show Ab ANa 33 #[.slice a n c,Al #[hb,hn,a0,a1,a2,a3,a4,a5,s0,s1,s2,s3,s4,s5,hl]] W fun e w'=>e=O (.bool true)/\Ae W W w' from HD.o W)
 clear hd;obtain⟨W,hW⟩:=Ja0 (((w.alloc (ANb #[hb,hn,a0,a1,a2,a3,a4,a5,s0,s1,s2,s3,s4,s5,hl] 49)).alloc (ANb #[(),(),(),(),(),(),(),(),(),(),(),(),(),(),false] 49)).alloc (ANb #[(),(),()] 33));have hbW:Ae w w W:=by rw[hW];exact qc (qc (qc (qd w) _) _) _
 have k7:An W w #[hb,hn,a0,a1,a2,a3,a4,a5,s0,s1,s2,s3,s4,s5,hl] 49:=by rw[hW];exact ((An.new w _ _).alloc _).alloc _
 have k8:An W (w.1.size+1) #[(),(),(),(),(),(),(),(),(),(),(),(),(),(),false] 49:=by rw[hW];exact (An.Ax _ _ _ _ _ (by simp) rfl).alloc _
 have k9:An W (w.1.size+1+1) #[(),(),()] 33:=by rw[hW];exact An.Ax _ _ _ _ _ (by simp) rfl
 go_in;go_wp2_with fail;rw[<-hW];clear hW;refine (HD.o _).mono ?_
 rintro e1 w1 ⟨rfl,hb1⟩
 replace k7:=k7.below hb1 k7.lt;replace k8:=k8.below hb1 k8.lt;replace k9:=k9.below hb1 k9.lt;replace hbW:=qe hbW hb1;have c7:=k7.cell;have c8:=k8.cell;have z8:=k8.free;have l8:=k8.lt;have c9:=k9.cell;have z9:=k9.free;have l9:=k9.lt;have hres:=Qa (ji k8 k9 (by omega) ⟨hb,hn,⟨a0,a1,a2,a3,a4,a5⟩,⟨s0,s1,s2,s3,s4,s5⟩,hl⟩ ⟨0,0,0⟩)
 have hrb:=Qa (yi hbW (b6:=(w.1.size+1)) (b7:=(w.1.size+1+1)) (by omega) (by omega) ⟨hb,hn,⟨a0,a1,a2,a3,a4,a5⟩,⟨s0,s1,s2,s3,s4,s5⟩,hl⟩ ⟨0,0,0⟩)
 clear k7 k8 k9 hbW hb1 HD;go_wp2_with fail;change bodyPost _ _ _ _ _ (js w1 (w.1.size+1) (w.1.size+1+1) ⟨hb,hn,⟨a0,a1,a2,a3,a4,a5⟩,⟨s0,s1,s2,s3,s4,s5⟩,hl⟩ ⟨0,0,0⟩);generalize js w1 (w.1.size+1) (w.1.size+1+1) ⟨hb,hn,⟨a0,a1,a2,a3,a4,a5⟩,⟨s0,s1,s2,s3,s4,s5⟩,hl⟩ ⟨0,0,0⟩=X at *;exact bodyPost_ret (qr _ _ 8 9 rfl rfl rfl hres.o.1 hres.o.2) rfl ⟨rfl,hrb.o⟩
def V4 (hS:Av w o y S) (hb hn a0 a1 a2 a3 a4 a5 s0 s1 s2 s3 s4 s5:Int) (vb:Ac) (l:List (List AD)) (hB:Dw w vb l) (hb1:0<=hb) (hb2:hb<(l.length:Int)) (hn1:0<=hn)
  (S':Am) (h':AE) (a':BD)
  (call:∀ X o2,Av X o2 y S->Ab ANa 60 #[ptr y.sb,i,l.length,Al #[hb,hn,a0,a1,a2,a3,a4,a5,s0,s1,s2,s3,s4,s5,false]] X fun e' w'=>e'=O (Ak #[h'.v,a'.val])/\Left y S' o2 X w') :
  Ab ANa 29 #[ptr y.sb,i,vb,Al #[hb,hn,a0,a1,a2,a3,a4,a5,s0,s1,s2,s3,s4,s5,false]] w fun e' w'=>e'=O (Ak #[h'.v,a'.val])/\Left y S' o w w':=by
 obtain⟨o1,ho1,dN,hS0⟩:=PRe o w (y.l.id+1,0) (qi y);have h1:=hS.retag dN;clear dN
 have hbx:∀ b,w.1.size<=b->Du y (o1 b):=fun b hb=>by rw[ho1];exact qq hb
 clear ho1 hS;obtain⟨a,c,rfl,hBl⟩:=hB;have HD:=Qa (fun W=>by have:=mn ⟨hb,hn,⟨a0,a1,a2,a3,a4,a5⟩,⟨s0,s1,s2,s3,s4,s5⟩,false⟩ a l.length c W;rw[show (decide ((⟨hb,hn,⟨a0,a1,a2,a3,a4,a5⟩,⟨s0,s1,s2,s3,s4,s5⟩,false⟩:AE).b<0)||decide ((l.length:Int)<=(⟨hb,hn,⟨a0,a1,a2,a3,a4,a5⟩,⟨s0,s1,s2,s3,s4,s5⟩,false⟩:AE).b))=false from by simp only[Ad,decide_eq_false_iff_not];omega]at this;exact this)
 have HD:=Qa (fun W=>show Ab ANa 33 #[.slice a l.length c,Al #[hb,hn,a0,a1,a2,a3,a4,a5,s0,s1,s2,s3,s4,s5,false]] W fun e w'=>e=O (.bool false)/\Ae W W w' from HD.o W)
 obtain⟨b',n',⟨r0,r1,r2,r3,r4,r5⟩,⟨p0,p1,p2,p3,p4,p5⟩,hl'⟩:=h';obtain⟨ak,ae,av⟩:=a';have HC:=Qa (fun X o2 (hx:Av X o2 y S)=>show Ab ANa 60 #[ptr y.sb,i,l.length,Al #[hb,hn,a0,a1,a2,a3,a4,a5,s0,s1,s2,s3,s4,s5,false]] X fun e' w'=>e'=O (Ak #[Al #[b',n',r0,r1,r2,r3,r4,r5,p0,p1,p2,p3,p4,p5,hl'],Al #[ak,ae,av]])/\Left y S' o2 X w' from call X o2 hx)
 clear call;obtain⟨W,hW⟩:=Ja0 (((w.alloc (ANb #[hb,hn,a0,a1,a2,a3,a4,a5,s0,s1,s2,s3,s4,s5,false] 49)).alloc (ANb #[(),(),(),(),(),(),(),(),(),(),(),(),(),(),false] 49)).alloc (ANb #[(),(),()] 33));have hbW:Ae w w W:=by rw[hW];exact qc (qc (qc (qd w) _) _) _
 have k7:An W w #[hb,hn,a0,a1,a2,a3,a4,a5,s0,s1,s2,s3,s4,s5,false] 49:=by rw[hW];exact ((An.new w _ _).alloc _).alloc _
 have k8:An W (w.1.size+1) #[(),(),(),(),(),(),(),(),(),(),(),(),(),(),false] 49:=by rw[hW];exact (An.Ax _ _ _ _ _ (by simp) rfl).alloc _
 have k9:An W (w.1.size+1+1) #[(),(),()] 33:=by rw[hW];exact An.Ax _ _ _ _ _ (by simp) rfl
 have bX:Stp (qi y) o o1 w W:=hS0.trans (Stp.of_below hbW);have hnn:(hn:Int)>=0:=hn1;go_in;go_wp2_with fail;rw[<-hW];clear hW;refine (HD.o _).mono ?_
 rintro e1 w1 ⟨rfl,hb1'⟩
 replace k7:=k7.below hb1' k7.lt;replace k8:=k8.below hb1' k8.lt;replace k9:=k9.below hb1' k9.lt;replace hbW:=qe hbW hb1';replace bX:=bX.trans (Stp.of_below hb1');have hSW:=h1.below hbW;have c7:=k7.cell;clear hb1' HD;obtain⟨V,hV⟩:=Ja0 w1;rw[<-hV]at k7 k8 k9 hbW bX hSW c7 ⊢;clear hV;go_wp2_with fail;refine (HC.o _ _ hSW).mono ?_
 rintro e2 w2 ⟨rfl,hL⟩
 obtain⟨o2,hS2,hI2,hs2⟩:=hL;have nt:∀ b,w.1.size<=b->¬qi y (o1 b):=fun b q1=>mc (hbx b q1)
 have tg:∀ b,w.1.size<=b->b<V.1.size->Du y (o2 b):=fun b q1 q2=>by have:=hbx b q1;rw[<-hs2.tags b q2]at this;exact this
 have t8:=tg (w.1.size+1) (by omega) k8.lt
 have t9:=tg (w.1.size+1+1) (by omega) k9.lt
 replace k8:=k8.Ar hs2 (nt _ (by omega))
 replace k9:=k9.Ar hs2 (nt _ (by omega))
 have hs5:=bX.trans hs2;have c8:=k8.cell;have z8:=k8.free;have l8:=k8.lt;have c9:=k9.cell;have z9:=k9.free;have l9:=k9.lt;have hres:=Qa (ji k8 k9 (by omega) ⟨b',n',⟨r0,r1,r2,r3,r4,r5⟩,⟨p0,p1,p2,p3,p4,p5⟩,hl'⟩ ⟨ak,ae,av⟩)
 have hrs:=Qa (wj hs5 (b6:=(w.1.size+1)) (b7:=(w.1.size+1+1)) (by omega) (by omega) ⟨b',n',⟨r0,r1,r2,r3,r4,r5⟩,⟨p0,p1,p2,p3,p4,p5⟩,hl'⟩ ⟨ak,ae,av⟩)
 have fE:=Qa (hS2.bx (yg w2 (w.1.size+1) (w.1.size+1+1) (o:=o2) t8 t9 ⟨b',n',⟨r0,r1,r2,r3,r4,r5⟩,⟨p0,p1,p2,p3,p4,p5⟩,hl'⟩ ⟨ak,ae,av⟩));have HI2:=Qa hI2;clear k7 k8 k9 hs5 hs2 bX hSW hS2 hI2 nt tg hbx h1 hS0 hBl HC c7;go_wp2_with fail;change bodyPost _ _ _ _ _ (js w2 (w.1.size+1) (w.1.size+1+1) ⟨b',n',⟨r0,r1,r2,r3,r4,r5⟩,⟨p0,p1,p2,p3,p4,p5⟩,hl'⟩ ⟨ak,ae,av⟩);generalize js w2 (w.1.size+1) (w.1.size+1+1) ⟨b',n',⟨r0,r1,r2,r3,r4,r5⟩,⟨p0,p1,p2,p3,p4,p5⟩,hl'⟩ ⟨ak,ae,av⟩=X at *;exact bodyPost_ret (qr _ _ 8 9 rfl rfl rfl hres.o.1 hres.o.2) rfl ⟨rfl,o2,fE.o,HI2.o,hrs.o⟩
def VE (hS:Av w o y S) (hb hn a0 a1 a2 a3 a4 a5 s0 s1 s2 s3 s4 s5:Int) (vb:Ac) (l:List (List AD)) (hB:Dw w vb l) (hb1:0<=hb) (hb2:hb<(l.length:Int)) (hn1:0<=hn) (hnd:∀ ds,l[hb.toNat]?=some ds->(ds.length:Int)<=hn)
  (S':Am) (h':AE) (a':BD)
  (call:∀ X o2,Av X o2 y S->Ab ANa 61 #[ptr y.sb,i,Al #[hb,hn,a0,a1,a2,a3,a4,a5,s0,s1,s2,s3,s4,s5,true]] X fun e' w'=>e'=O (Ak #[h'.v,a'.val])/\Left y S' o2 X w') :
  Ab ANa 29 #[ptr y.sb,i,vb,Al #[hb,hn,a0,a1,a2,a3,a4,a5,s0,s1,s2,s3,s4,s5,true]] w fun e' w'=>e'=O (Ak #[h'.v,a'.val])/\Left y S' o w w':=by
 obtain⟨o1,ho1,dN,hS0⟩:=PRe o w (y.l.id+1,0) (qi y);have h1:=hS.retag dN;clear dN
 have hbx:∀ b,w.1.size<=b->Du y (o1 b):=fun b hb=>by rw[ho1];exact qq hb
 clear ho1 hS;obtain⟨a,c,rfl,hBl⟩:=hB;have HD:=Qa (fun W=>by have:=mn ⟨hb,hn,⟨a0,a1,a2,a3,a4,a5⟩,⟨s0,s1,s2,s3,s4,s5⟩,true⟩ a l.length c W;rw[show (decide ((⟨hb,hn,⟨a0,a1,a2,a3,a4,a5⟩,⟨s0,s1,s2,s3,s4,s5⟩,true⟩:AE).b<0)||decide ((l.length:Int)<=(⟨hb,hn,⟨a0,a1,a2,a3,a4,a5⟩,⟨s0,s1,s2,s3,s4,s5⟩,true⟩:AE).b))=false from by simp only[Ad,decide_eq_false_iff_not];omega]at this;exact this)
 have HD:=Qa (fun W=>show Ab ANa 33 #[.slice a l.length c,Al #[hb,hn,a0,a1,a2,a3,a4,a5,s0,s1,s2,s3,s4,s5,true]] W fun e w'=>e=O (.bool false)/\Ae W W w' from HD.o W)
 obtain⟨b',n',⟨r0,r1,r2,r3,r4,r5⟩,⟨p0,p1,p2,p3,p4,p5⟩,hl'⟩:=h';obtain⟨ak,ae,av⟩:=a';have HC:=Qa (fun X o2 (hx:Av X o2 y S)=>show Ab ANa 61 #[ptr y.sb,i,Al #[hb,hn,a0,a1,a2,a3,a4,a5,s0,s1,s2,s3,s4,s5,true]] X fun e' w'=>e'=O (Ak #[Al #[b',n',r0,r1,r2,r3,r4,r5,p0,p1,p2,p3,p4,p5,hl'],Al #[ak,ae,av]])/\Left y S' o2 X w' from call X o2 hx)
 clear call;obtain⟨W,hW⟩:=Ja0 (((w.alloc (ANb #[hb,hn,a0,a1,a2,a3,a4,a5,s0,s1,s2,s3,s4,s5,true] 49)).alloc (ANb #[(),(),(),(),(),(),(),(),(),(),(),(),(),(),false] 49)).alloc (ANb #[(),(),()] 33));have hbW:Ae w w W:=by rw[hW];exact qc (qc (qc (qd w) _) _) _
 have k7:An W w #[hb,hn,a0,a1,a2,a3,a4,a5,s0,s1,s2,s3,s4,s5,true] 49:=by rw[hW];exact ((An.new w _ _).alloc _).alloc _
 have k8:An W (w.1.size+1) #[(),(),(),(),(),(),(),(),(),(),(),(),(),(),false] 49:=by rw[hW];exact (An.Ax _ _ _ _ _ (by simp) rfl).alloc _
 have k9:An W (w.1.size+1+1) #[(),(),()] 33:=by rw[hW];exact An.Ax _ _ _ _ _ (by simp) rfl
 have bX:Stp (qi y) o o1 w W:=hS0.trans (Stp.of_below hbW);have hnn:(hn:Int)>=0:=hn1;go_in;go_wp2_with fail;rw[<-hW];clear hW;refine (HD.o _).mono ?_
 rintro e1 w1 ⟨rfl,hb1'⟩
 replace k7:=k7.below hb1' k7.lt;replace k8:=k8.below hb1' k8.lt;replace k9:=k9.below hb1' k9.lt;replace hbW:=qe hbW hb1';replace bX:=bX.trans (Stp.of_below hb1');have hSW:=h1.below hbW;have c7:=k7.cell;clear hb1' HD;obtain⟨j,rfl⟩:∃ j:Nat,hb=j:=⟨hb.toNat,by omega⟩
 obtain⟨ds,hds⟩:∃ ds,l[j]?=some ds:=⟨l[j]'(by omega),Qb _⟩
 obtain⟨bb,off,rfl,vd,hcd,hdd⟩:=hBl j ds hds;obtain⟨ad,cd,rfl,hdc⟩:=hdd;have Acx:=cell_below hcd hbW;have jL:(j:Int)<(l.length:Int):=hb2;have hle:(ds.length:Int)<=hn:=hnd ds (by rw[Int.toNat_natCast];exact hds)
 clear hnd hdc;obtain⟨V,hV⟩:=Ja0 w1;rw[<-hV]at k7 k8 k9 hbW bX hSW c7 Acx ⊢;clear hV;go_wp2_with fail;refine (HC.o _ _ hSW).mono ?_
 rintro e2 w2 ⟨rfl,hL⟩
 clear hcd hds Acx;obtain⟨o2,hS2,hI2,hs2⟩:=hL;have nt:∀ b,w.1.size<=b->¬qi y (o1 b):=fun b q1=>mc (hbx b q1)
 have tg:∀ b,w.1.size<=b->b<V.1.size->Du y (o2 b):=fun b q1 q2=>by have:=hbx b q1;rw[<-hs2.tags b q2]at this;exact this
 have t8:=tg (w.1.size+1) (by omega) k8.lt
 have t9:=tg (w.1.size+1+1) (by omega) k9.lt
 replace k8:=k8.Ar hs2 (nt _ (by omega))
 replace k9:=k9.Ar hs2 (nt _ (by omega))
 have hs5:=bX.trans hs2;have c8:=k8.cell;have z8:=k8.free;have l8:=k8.lt;have c9:=k9.cell;have z9:=k9.free;have l9:=k9.lt;have hres:=Qa (ji k8 k9 (by omega) ⟨b',n',⟨r0,r1,r2,r3,r4,r5⟩,⟨p0,p1,p2,p3,p4,p5⟩,hl'⟩ ⟨ak,ae,av⟩)
 have hrs:=Qa (wj hs5 (b6:=(w.1.size+1)) (b7:=(w.1.size+1+1)) (by omega) (by omega) ⟨b',n',⟨r0,r1,r2,r3,r4,r5⟩,⟨p0,p1,p2,p3,p4,p5⟩,hl'⟩ ⟨ak,ae,av⟩)
 have fE:=Qa (hS2.bx (yg w2 (w.1.size+1) (w.1.size+1+1) (o:=o2) t8 t9 ⟨b',n',⟨r0,r1,r2,r3,r4,r5⟩,⟨p0,p1,p2,p3,p4,p5⟩,hl'⟩ ⟨ak,ae,av⟩));have HI2:=Qa hI2;clear k7 k8 k9 hs5 hs2 bX hSW hS2 hI2 nt tg hbx h1 hS0 hBl HC c7;go_wp2_with fail;change bodyPost _ _ _ _ _ (js w2 (w.1.size+1) (w.1.size+1+1) ⟨b',n',⟨r0,r1,r2,r3,r4,r5⟩,⟨p0,p1,p2,p3,p4,p5⟩,hl'⟩ ⟨ak,ae,av⟩);generalize js w2 (w.1.size+1) (w.1.size+1+1) ⟨b',n',⟨r0,r1,r2,r3,r4,r5⟩,⟨p0,p1,p2,p3,p4,p5⟩,hl'⟩ ⟨ak,ae,av⟩=X at *;exact bodyPost_ret (qr _ _ 8 9 rfl rfl rfl hres.o.1 hres.o.2) rfl ⟨rfl,o2,fE.o,HI2.o,hrs.o⟩
def qmh (hS:Av w o y S) (hb hn a0 a1 a2 a3 a4 a5 s0 s1 s2 s3 s4 s5:Int) (vb:Ac) (l:List (List AD)) (hB:Dw w vb l) (hb1:0<=hb) (hb2:hb<(l.length:Int)) (hn1:0<=hn) (d:AD) (hnd:∃ ds,l[hb.toNat]?=some ds/\ds[hn.toNat]?=some d) (hrt:Pg.right d.D=true)
  (S':Am) (h':AE) (a':BD)
  (call:∀ X o2,Av X o2 y S->Ab ANa 62 #[ptr y.sb,i,d.v,Al #[hb,hn,a0,a1,a2,a3,a4,a5,s0,s1,s2,s3,s4,s5,true]] X fun e' w'=>e'=O (Ak #[h'.v,a'.val])/\Left y S' o2 X w') :
  Ab ANa 29 #[ptr y.sb,i,vb,Al #[hb,hn,a0,a1,a2,a3,a4,a5,s0,s1,s2,s3,s4,s5,true]] w fun e' w'=>e'=O (Ak #[h'.v,a'.val])/\Left y S' o w w':=by
 obtain⟨o1,ho1,dN,hS0⟩:=PRe o w (y.l.id+1,0) (qi y);have h1:=hS.retag dN;clear dN
 have hbx:∀ b,w.1.size<=b->Du y (o1 b):=fun b hb=>by rw[ho1];exact qq hb
 clear ho1 hS;obtain⟨a,c,rfl,hBl⟩:=hB;have HD:=Qa (fun W=>by have:=mn ⟨hb,hn,⟨a0,a1,a2,a3,a4,a5⟩,⟨s0,s1,s2,s3,s4,s5⟩,true⟩ a l.length c W;rw[show (decide ((⟨hb,hn,⟨a0,a1,a2,a3,a4,a5⟩,⟨s0,s1,s2,s3,s4,s5⟩,true⟩:AE).b<0)||decide ((l.length:Int)<=(⟨hb,hn,⟨a0,a1,a2,a3,a4,a5⟩,⟨s0,s1,s2,s3,s4,s5⟩,true⟩:AE).b))=false from by simp only[Ad,decide_eq_false_iff_not];omega]at this;exact this)
 have HD:=Qa (fun W=>show Ab ANa 33 #[.slice a l.length c,Al #[hb,hn,a0,a1,a2,a3,a4,a5,s0,s1,s2,s3,s4,s5,true]] W fun e w'=>e=O (.bool false)/\Ae W W w' from HD.o W)
 obtain⟨b',n',⟨r0,r1,r2,r3,r4,r5⟩,⟨p0,p1,p2,p3,p4,p5⟩,hl'⟩:=h';obtain⟨ak,ae,av⟩:=a';have HC:=Qa (fun X o2 (hx:Av X o2 y S)=>show Ab ANa 62 #[ptr y.sb,i,d.v,Al #[hb,hn,a0,a1,a2,a3,a4,a5,s0,s1,s2,s3,s4,s5,true]] X fun e' w'=>e'=O (Ak #[Al #[b',n',r0,r1,r2,r3,r4,r5,p0,p1,p2,p3,p4,p5,hl'],Al #[ak,ae,av]])/\Left y S' o2 X w' from call X o2 hx)
 clear call;obtain⟨W,hW⟩:=Ja0 (((w.alloc (ANb #[hb,hn,a0,a1,a2,a3,a4,a5,s0,s1,s2,s3,s4,s5,true] 49)).alloc (ANb #[(),(),(),(),(),(),(),(),(),(),(),(),(),(),false] 49)).alloc (ANb #[(),(),()] 33));have hbW:Ae w w W:=by rw[hW];exact qc (qc (qc (qd w) _) _) _
 have k7:An W w #[hb,hn,a0,a1,a2,a3,a4,a5,s0,s1,s2,s3,s4,s5,true] 49:=by rw[hW];exact ((An.new w _ _).alloc _).alloc _
 have k8:An W (w.1.size+1) #[(),(),(),(),(),(),(),(),(),(),(),(),(),(),false] 49:=by rw[hW];exact (An.Ax _ _ _ _ _ (by simp) rfl).alloc _
 have k9:An W (w.1.size+1+1) #[(),(),()] 33:=by rw[hW];exact An.Ax _ _ _ _ _ (by simp) rfl
 have bX:Stp (qi y) o o1 w W:=hS0.trans (Stp.of_below hbW);have hnn:(hn:Int)>=0:=hn1;go_in;go_wp2_with fail;rw[<-hW];clear hW;refine (HD.o _).mono ?_
 rintro e1 w1 ⟨rfl,hb1'⟩
 replace k7:=k7.below hb1' k7.lt;replace k8:=k8.below hb1' k8.lt;replace k9:=k9.below hb1' k9.lt;replace hbW:=qe hbW hb1';replace bX:=bX.trans (Stp.of_below hb1');have hSW:=h1.below hbW;have c7:=k7.cell;clear hb1' HD;obtain⟨ds,hds,iE⟩:=hnd;obtain⟨j,rfl⟩:∃ j:Nat,hb=j:=⟨hb.toNat,by omega⟩
 obtain⟨m,rfl⟩:∃ m:Nat,hn=m:=⟨hn.toNat,by omega⟩
 rw[Int.toNat_natCast]at hds iE;obtain⟨bb,off,rfl,vd,hcd,hdd⟩:=hBl j ds hds;obtain⟨ad,cd,rfl,hdc⟩:=hdd;obtain⟨b5,ACf,rfl,q0,q1,q2,q3,q4⟩:=hdc m d iE;have jL:(j:Int)<(l.length:Int):=hb2;have mL:(m:Int)<(ds.length:Int):=by have:=(Qc.1 iE).1;omega
 have HR:=Qa (fun X=>show Ab ANa 38 #[Al #[d.k,d.A,d.B,d.i,d.n]] X fun e w'=>e=O (.bool true)/\Ae X X w' from by have:=Xb d.k d.A d.B d.i d.n X;rw[show Pg.right ⟨d.k,d.A,d.B,d.i,d.n⟩=true from hrt]at this;exact this)
 have HC:=Qa (fun X o2 (h:Av X o2 y S)=>show Ab ANa 62 #[ptr y.sb,i,Al #[d.k,d.A,d.B,d.i,d.n],Al #[I Z (j:Int),I Z (m:Int),a0,a1,a2,a3,a4,a5,s0,s1,s2,s3,s4,s5,true]] X fun e' w'=>e'=O (Ak #[Al #[b',n',r0,r1,r2,r3,r4,r5,p0,p1,p2,p3,p4,p5,hl'],Al #[ak,ae,av]])/\Left y S' o2 X w' from HC.o X o2 h)
 replace q0:=cell_below q0 hbW;replace q1:=cell_below q1 hbW;replace q2:=cell_below q2 hbW;replace q3:=cell_below q3 hbW;replace q4:=cell_below q4 hbW;replace hcd:=cell_below hcd hbW;clear hdc hds iE hrt;go_wp2_with fail;obtain⟨V0,hV0⟩:=Ja0 (w1.alloc (ANb #[d.k,d.A,d.B,d.i,d.n] 44));rw[<-hV0];have kD:An V0 w1 #[d.k,d.A,d.B,d.i,d.n] 44:=by rw[hV0];exact An.new _ _ _
 have hb0:Ae w1 w1 V0:=by rw[hV0];exact qc (qd _) _
 clear hV0 q0 q1 q2 q3 q4 hcd;refine (HR.o _).mono ?_
 rintro e3 V ⟨rfl,hb3⟩
 have hb4:=qe hb0 hb3;replace k7:=k7.below hb4 k7.lt;replace k8:=k8.below hb4 k8.lt;replace k9:=k9.below hb4 k9.lt;replace bX:=bX.trans (Stp.of_below hb4);replace hSW:=hSW.below hb4;replace kD:=kD.below hb3 kD.lt;have c7:=k7.cell;have cD:=kD.cell;clear hb0 hb3 hb4 HR hbW;go_wp2_with fail;refine (HC.o _ _ hSW).mono ?_
 rintro e2 w2 ⟨rfl,hL⟩
 clear kD cD;obtain⟨o2,hS2,hI2,hs2⟩:=hL;have nt:∀ b,w.1.size<=b->¬qi y (o1 b):=fun b q1=>mc (hbx b q1)
 have tg:∀ b,w.1.size<=b->b<V.1.size->Du y (o2 b):=fun b q1 q2=>by have:=hbx b q1;rw[<-hs2.tags b q2]at this;exact this
 have t8:=tg (w.1.size+1) (by omega) k8.lt
 have t9:=tg (w.1.size+1+1) (by omega) k9.lt
 replace k8:=k8.Ar hs2 (nt _ (by omega))
 replace k9:=k9.Ar hs2 (nt _ (by omega))
 have hs5:=bX.trans hs2;have c8:=k8.cell;have z8:=k8.free;have l8:=k8.lt;have c9:=k9.cell;have z9:=k9.free;have l9:=k9.lt;have hres:=Qa (ji k8 k9 (by omega) ⟨b',n',⟨r0,r1,r2,r3,r4,r5⟩,⟨p0,p1,p2,p3,p4,p5⟩,hl'⟩ ⟨ak,ae,av⟩)
 have hrs:=Qa (wj hs5 (b6:=(w.1.size+1)) (b7:=(w.1.size+1+1)) (by omega) (by omega) ⟨b',n',⟨r0,r1,r2,r3,r4,r5⟩,⟨p0,p1,p2,p3,p4,p5⟩,hl'⟩ ⟨ak,ae,av⟩)
 have fE:=Qa (hS2.bx (yg w2 (w.1.size+1) (w.1.size+1+1) (o:=o2) t8 t9 ⟨b',n',⟨r0,r1,r2,r3,r4,r5⟩,⟨p0,p1,p2,p3,p4,p5⟩,hl'⟩ ⟨ak,ae,av⟩));have HI2:=Qa hI2;clear k7 k8 k9 hs5 hs2 bX hSW hS2 hI2 nt tg hbx h1 hS0 hBl HC c7;go_wp2_with fail;change bodyPost _ _ _ _ _ (js w2 (w.1.size+1) (w.1.size+1+1) ⟨b',n',⟨r0,r1,r2,r3,r4,r5⟩,⟨p0,p1,p2,p3,p4,p5⟩,hl'⟩ ⟨ak,ae,av⟩);generalize js w2 (w.1.size+1) (w.1.size+1+1) ⟨b',n',⟨r0,r1,r2,r3,r4,r5⟩,⟨p0,p1,p2,p3,p4,p5⟩,hl'⟩ ⟨ak,ae,av⟩=X at *;exact bodyPost_ret (qr _ _ 8 9 rfl rfl rfl hres.o.1 hres.o.2) rfl ⟨rfl,o2,fE.o,HI2.o,hrs.o⟩
