import Derived.Test.YtgndecmkhhdkjaaGreatKab
import Derived.ChangeSame
import Derived.Deep.Fields
import Derived.Deep.Slices
set_option linter.all false
set_option maxRecDepth 1000000
set_option maxHeartbeats 0
open Go renaming World->Aa,Calls->Ab,Value->Ac
open Go.RowKit renaming Below->Ae
open Go.Value renaming slice->Ai,tuple->Ak,agg->Al
open Go.Ending renaming returned->O
open Go.DataW renaming trod->Ad,trod_int->Aj
open Option renaming map_eq_some_iff->aa,bind_eq_some_iff->aD
open List renaming range->af,getElem?_of_mem->ai,getElem?_range->aj,getElem?_cons_zero->ay,mem_iff_getElem?->aB,length_range->aC
open List.cons renaming injEq->ag
open Option.some renaming inj->aA
open Go.Proofs.Tryz
namespace Go.Proofs.YtgndecmkhhdkjaaGreat
section
open Go.RowKit Go.ChangeShapes Go.WideShapes Go.Deep
def Sl (w:Aa)(v:Ac)(n:Nat)(cs:List Ac):Prop:=
 ∃ a c,v=.slice a n c/\(cs=[]\/∃ b off,a=some ⟨b,off,none⟩/\∀ j x,cs[j]?=some x->w.cell? ⟨b,off+j,none⟩=some x)
def xy {w:Aa}{b o:Nat}{v:Ac}(h:w.cell? ⟨b,o,none⟩=some v):b<w.1.size:=by
 unfold World.cell? at h;split at h
 ·rename_i h';exact (Qf.1 h').1
 ·cases h
def Sl.below {w w':Aa}{v:Ac}{n:Nat}{cs:List Ac}(h:Sl w v n cs)(k:Ae w w w'):Sl w' v n cs:=by
 obtain⟨a,c,rfl,h0⟩:=h;refine⟨a,c,rfl,h0.imp id ?_⟩
 rintro⟨b,off,rfl,h⟩
 refine⟨b,off,rfl,fun j x hx=>?_⟩
 have hc:=h j x hx;have hlt:b<w.1.size:=by
  unfold World.cell? at hc;split at hc
  ·rename_i h';exact (Qf.1 h').1
  ·cases hc
 exact (k.cell (p:=⟨b,off+j,none⟩) hlt).trans hc
def Sl.nil (w:Aa):Sl w (Ai none 0 0) 0 []:=⟨_,_,rfl,.inl rfl⟩
def kl (l:List Pg.D):List Ac:=l.flatMap fun d=>(ju d).toList
def Ct (w:Aa)(v:Ac)(l:List Pg.D):Prop:=l.length<=maxLen/\Sl w v l.length (kl l)
def Cl (w:Aa)(v:Ac)(ls:List (List Pg.D)):Prop:=
 ls.length<=maxLen/\∃ vs:List Ac,vs.length=ls.length/\Sl w v ls.length vs/\∀ (j:Nat)(l:List Pg.D),ls[j]?=some l->∃ u:Ac,vs[j]?=some u/\Ct w u l
def BL (w:Aa)(v:Ac)(AZ:List (List (List Pg.D))):Prop:=
 AZ.length<=maxLen/\∃ vs:List Ac,vs.length=AZ.length/\Sl w v AZ.length vs/\∀ (j:Nat)(l:List (List Pg.D)),AZ[j]?=some l->∃ u:Ac,vs[j]?=some u/\Cl w u l
def Ct.below {w w':Aa}{v:Ac}{l:List Pg.D}(h:Ct w v l)(k:Ae w w w'):Ct w' v l:=⟨h.1,h.2.below k⟩
def Cl.below {w w':Aa}{v:Ac}{l:List (List Pg.D)}(h:Cl w v l)(k:Ae w w w'):Cl w' v l:=by
 obtain⟨h0,vs,h1,h2,h3⟩:=h;exact⟨h0,vs,h1,h2.below k,fun j l hl=>let⟨u,hu,hd⟩:=h3 j l hl;⟨u,hu,hd.below k⟩⟩
def BL.below {w w':Aa}{v:Ac}{l:List (List (List Pg.D))}(h:BL w v l)(k:Ae w w w'):BL w' v l:=by
 obtain⟨h0,vs,h1,h2,h3⟩:=h;exact⟨h0,vs,h1,h2.below k,fun j l hl=>let⟨u,hu,hd⟩:=h3 j l hl;⟨u,hu,hd.below k⟩⟩
section
variable {H : Type} {enc : TypeId × Ac -> H} {P : Program} {w : Aa} {base : Nat} {spare : Nat -> Bool} {held : Bool}
def Y9 {t e:TypeId}{fs:Array Field}{fuel:Nat}{cs:List Ac}{x:DataW H×List MemPlace}(ht:P.underlying t=some (.slice e))(he:P.underlying e=some (.struct fs))
  (hone:oneCellFields P fs=true)(hC:P.cellsOf e=fs.size)(h:Ad enc P w base spare held fuel t cs=some x) :
  (cs=[Ai none 0 0]/\x=(.nil,[])) \/
  ∃ (a:Addr)(len cap m:Nat)(D:Nat->DataW H)(Pl:Nat->List MemPlace),cs=[Ai (some a) len cap]/\base<=a.block/\len<=cap/\cap<=maxLen/\m=(if spare a.block then cap else len) /\
   x=(.slice ((af len).map D) ((af (m-len)).map fun j=>D (len+j)),MemPlace.row a (m*fs.size)++(af m).flatMap Pl) /\
   ∀ i,i<m->∃ (ys:List (DataW H×List MemPlace))(n:Nat),D i=.agg (ys.map (·.1))/\Pl i=ys.flatMap (·.2)/\ys.length=fs.size /\
    ∀ (j:Nat)(f:Field),fs[j]?=some f->∃ (v:Ac)(y:DataW H×List MemPlace),w.cell? (a.add (i*fs.size+j))=some v/\ys[j]?=some y/\Ad enc P w base spare held n f.type [v]=some y:=by
 rcases open_slice ht h with h0|⟨a,len,cap,m,n,D,Pl,hcs,hb,hl,hm,hmm,hx,hi⟩
 ·exact .inl h0
 ·refine .inr ⟨a,len,cap,m,D,Pl,hcs,hb,hl,hm,hmm,by rw[hC]at hx;exact hx,fun i him=>?_⟩
  obtain⟨cs',hc,ht'⟩:=hi i him;rw[hC]at hc;obtain⟨ys,n',hn',hy,hlen,hyl,hf⟩:=DataW.trod_struct he ht';obtain⟨_,hcl,hat⟩:=World.cells?_some hc;simp only[Prod.mk.injEq]at hy;refine⟨ys,n',hy.1,hy.2,hyl,fun j f hj=>?_⟩;obtain⟨ho,hk⟩:=hone_of hone j f hj;have hjl:j<fs.size:=(Qf.1 hj).1;have hcell:=hat j hjl;have hv:cs'[j]?=some (cs'[j]'(by omega)):=Qb (by omega)
  have h1:=hf j f hj;rw[ho,hk]at h1;have hone':(cs'.drop j).take 1=[cs'[j]'(by omega)]:=by
   rw[List.drop_eq_getElem_cons (by omega)]
   rfl
  rw[hone']at h1;have hys:ys[j]?=some (ys[j]'(by omega)):=Qb (by omega)
  refine⟨_,_,?_,hys,h1.trans hys⟩;rw[<-Go.Deep.add_add,hcell,hv]
def NP (v:Ac):Prop:=∃ a n c,v=.slice a n c/\n<=c/\c<=maxLen
def bz {a:Addr}{v:Ac}(h:w.cell? a=some v):a=⟨a.block,a.off,none⟩:=by
 obtain⟨b,o,s⟩:=a;unfold World.cell? at h;split at h
 ·cases s with
  | none=>rfl
  | some x=>simp at h
 ·cases h
def lc (b o j:Nat):(⟨b,o,none⟩:Addr).add j=⟨b,o+j,none⟩:=by unfold Addr.add;split<;>simp_all
def DI (d:Pg.D):Prop:=FH d.k/\FH d.a/\FH d.b/\FH d.i/\FH d.n
instance : Inhabited Pg.D := ⟨⟨0, 0, 0, 0, 0⟩⟩
def nj:∀ (l:List Pg.D)(j:Nat),(kl l)[j]?=(l[j/5]?).bind fun d=>(ju d)[j%5]?
 | [],j=>by simp[kl]
 | d::l,j=>by
  have e:kl (d::l)=(ju d).toList++kl l:=rfl;have hs:(ju d).toList.length=5:=rfl;rw[e];by_cases h:j<5
  ·rw[Qm (by omega),show j/5=0 from by omega,show j%5=j from by omega];simp
  ·rw[Ql (by omega),hs,nj l (j-5),show j/5=(j-5)/5+1 from by omega,show j%5=(j-5)%5 from by omega];simp
def qlx {t e i:TypeId}{f0 f1 f2 f3 f4:Field}{fuel:Nat}{cs:List Ac}{x:DataW H×List MemPlace}(ht:P.underlying t=some (.slice e))(he:P.underlying e=some (.struct #[f0,f1,f2,f3,f4]))
  (hi:P.underlying i=some (.int .i64))(e0:f0.type=i)(e1:f1.type=i)(e2:f2.type=i)(e3:f3.type=i)(e4:f4.type=i)
  (hone:oneCellFields P #[f0,f1,f2,f3,f4]=true)(hC:P.cellsOf e=5)(h:Ad enc P w base spare held fuel t cs=some x) :
  ∃ v l,cs=[v]/\Ct w v l/\NP v/\∀ d ∈ l,DI d:=by
 rcases Y9 ht he hone hC h with⟨rfl,_⟩|⟨a,len,cap,m,D,Pl,rfl,_,hl,hm,hmm,_,hx⟩
 ·exact⟨_,[],rfl,⟨by simp,Sl.nil w⟩,⟨_,_,_,rfl,by omega,by simp[maxLen]⟩,fun d hd=>by cases hd⟩
 have hle:len<=m:=by rw[hmm];split<;>omega
 have key:∀ k,k<len->∃ d:Pg.D,(∀ r,r<5->w.cell? (a.add (k*5+r))=(ju d)[r]?)/\DI d:=by
  intro k hk;obtain⟨ys,n,_,_,_,hf⟩:=hx k (by omega)
  obtain⟨v0,y0,c0,_,t0⟩:=hf 0 f0 rfl;obtain⟨v1,y1,c1,_,t1⟩:=hf 1 f1 rfl;obtain⟨v2,y2,c2,_,t2⟩:=hf 2 f2 rfl;obtain⟨v3,y3,c3,_,t3⟩:=hf 3 f3 rfl;obtain⟨v4,y4,c4,_,t4⟩:=hf 4 f4 rfl;rw[e0]at t0;rw[e1]at t1;rw[e2]at t2;rw[e3]at t3;rw[e4]at t4;obtain⟨z0,q0,_,w0⟩:=Aj hi t0;obtain⟨z1,q1,_,w1⟩:=Aj hi t1;obtain⟨z2,q2,_,w2⟩:=Aj hi t2;obtain⟨z3,q3,_,w3⟩:=Aj hi t3;obtain⟨z4,q4,_,w4⟩:=Aj hi t4;simp only[ag,and_true]at q0 q1 q2 q3 q4;subst q0 q1 q2 q3 q4;refine⟨⟨z0,z1,z2,z3,z4⟩,fun r hr=>?_,lu w0,lu w1,lu w2,lu w3,lu w4⟩;obtain rfl|rfl|rfl|rfl|rfl:r=0\/r=1\/r=2\/r=3\/r=4:=by omega
  ·exact c0
  ·exact c1
  ·exact c2
  ·exact c3
  ·exact c4
 obtain⟨F,hF⟩:=choose_lt key;refine⟨_,(af len).map F,rfl,⟨by simp;omega,?_⟩,⟨_,_,_,rfl,hl,hm⟩,?_⟩
 ·refine⟨_,_,by rw[Qg,aC],?_⟩
  by_cases h0:len=0
  ·left;subst h0;rfl
  ·right
   have hc0:=(hF 0 (by omega)).1 0 (by omega)
   rw[Nat.zero_mul,Nat.add_zero]at hc0;have ha0:a.add 0=a:=by unfold Addr.add;simp
   rw[ha0]at hc0;have hp:=bz (hc0.trans (show (ju (F 0))[0]?=some (.int .i64 (F 0).k) from rfl));refine⟨a.block,a.off,by rw[<-hp],fun j x hj=>?_⟩
   rw[nj]at hj;obtain⟨d,hd,hr⟩:=aD.1 hj;rw[Qj]at hd;obtain⟨q,hq,rfl⟩:=aa.1 hd;have mV:j/5<len:=by have:=(Qc.1 hq).1;simpa using this
   obtain rfl:j/5=q:=by
    rw[aj mV]at hq;exact aA hq
   have hc:=(hF (j/5) mV).1 (j%5) (by omega)
   rw[hr,show j/5*5+j%5=j from by omega,hp,lc]at hc
   exact hc
 ·intro d hd
  obtain⟨q,hq,rfl⟩:=Qt.1 hd;exact (hF q (List.mem_range.1 hq)).2
def Xr {α:Type}[Inhabited α]{t e:TypeId}{fuel:Nat}{cs:List Ac}{x:DataW H×List MemPlace}(ht:P.underlying t=some (.slice e))(hC:P.cellsOf e=1)(R:Ac->α->Prop)
  (hR:∀ (n:Nat)(u:Ac)(y:DataW H×List MemPlace),Ad enc P w base spare held n e [u]=some y->∃ l,R u l)
  (h:Ad enc P w base spare held fuel t cs=some x) :
  ∃ (v:Ac)(ls:List α),cs=[v]/\NP v/\ls.length<=maxLen/\∃ vs:List Ac,vs.length=ls.length/\Sl w v ls.length vs/\∀ (j:Nat)(l:α),ls[j]?=some l->∃ u:Ac,vs[j]?=some u/\R u l:=by
 rcases open_slice1 ht hC h with⟨rfl,_⟩|⟨a,len,cap,m,n,V,D,Pl,rfl,_,hl,hm,hmm,_,hx⟩
 ·exact⟨_,[],rfl,⟨_,_,_,rfl,by omega,by simp[maxLen]⟩,by simp,[],rfl,Sl.nil w,fun j l hj=>by simp at hj⟩
 have hle:len<=m:=by rw[hmm];split<;>omega
 have key:∀ k,k<len->∃ l:α,R (V k) l:=fun k hk=>hR n _ _ (hx k (by omega)).2
 obtain⟨F,hF⟩:=choose_lt key;refine⟨_,(af len).map F,rfl,⟨_,_,_,rfl,hl,hm⟩,by simp;omega,(af len).map V,by simp,?_,?_⟩
 ·refine⟨_,_,by rw[Qg,aC],?_⟩
  by_cases h0:len=0
  ·left;subst h0;rfl
  ·right
   have hc0:=(hx 0 (by omega)).1
   have ha0:a.add 0=a:=by unfold Addr.add;simp
   rw[ha0]at hc0;have hp:=bz hc0;refine⟨a.block,a.off,by rw[<-hp],fun j x hj=>?_⟩
   rw[Qj]at hj;obtain⟨q,hq,rfl⟩:=aa.1 hj;have mV:j<len:=by have:=(Qc.1 hq).1;simpa using this
   obtain rfl:j=q:=by
    rw[aj mV]at hq;exact aA hq
   have hc:=(hx j (by omega)).1
   rw[hp,lc]at hc;exact hc
 ·intro j l hj
  rw[Qj]at hj;obtain⟨q,hq,rfl⟩:=aa.1 hj;have mV:j<len:=by have:=(Qc.1 hq).1;simpa using this
  obtain rfl:j=q:=by
   rw[aj mV]at hq;exact aA hq
  exact⟨V j,by simp[mV],hF j mV⟩
end
def TI (AZ:List (List (List Pg.D))):Prop:=∀ t ∈ AZ,∀ b ∈ t,∀ d ∈ b,DI d
def qh3 {H:Type}{enc:TypeId×Ac->H}{w:Aa}{base:Nat}{spare:Nat->Bool}{held:Bool}{v:Ac}{d:DataW H}{p:List MemPlace}(h:DataW.Trod enc Tryz.prog w base spare held 22 v d p)
  {r:Reach}{b0:Nat}(hv:Value.okWide Tryz.prog w r b0 22 v) :
  ∃ AZ,BL w v AZ/\NP v/\TI AZ:=by
 obtain⟨fuel,h⟩:=h
 have hb:∀ (n:Nat)(u:Ac)(y:DataW H×List MemPlace),Ad enc Tryz.prog w base spare held n 45 [u]=some y->∃ l,Ct w u l/\∀ d ∈ l,DI d:=by
  intro n u y hy;obtain⟨v',l,hv',h1,_,h3⟩:=qlx (i:=3) underlying45 underlying44 underlying3 rfl rfl rfl rfl rfl (by kernel_rfl) (by kernel_rfl) hy
  simp only[ag,and_true]at hv';subst hv';exact⟨l,h1,h3⟩
 have ht:∀ (n:Nat)(u:Ac)(y:DataW H×List MemPlace),Ad enc Tryz.prog w base spare held n 46 [u]=some y->∃ ls,Cl w u ls/\∀ b ∈ ls,∀ d ∈ b,DI d:=by
  intro n u y hy;obtain⟨v',ls,hv',_,hl,vs,h1,h2,h3⟩:=Xr underlying46 (by kernel_rfl) (fun u l=>Ct w u l/\∀ d ∈ l,DI d) hb hy
  simp only[ag,and_true]at hv';subst hv';refine⟨ls,⟨hl,vs,h1,h2,fun j l hj=>let⟨x,hx,hd,_⟩:=h3 j l hj;⟨x,hx,hd⟩⟩,fun b hb=>?_⟩;obtain⟨j,hj⟩:=aB.1 hb;obtain⟨x,_,_,hd⟩:=h3 j b hj;exact hd
 obtain⟨a,n,c,rfl⟩:=okWide_slice underlying22 hv;have h':Ad enc Tryz.prog w base spare held fuel 22 [.slice a n c]=some (d,p):=h;obtain⟨v',AZ,hv',hs,hl,vs,h1,h2,h3⟩:=Xr underlying22 (by kernel_rfl) (fun u ls=>Cl w u ls/\∀ b ∈ ls,∀ d ∈ b,DI d) ht h'
 simp only[ag,and_true]at hv';subst hv';refine⟨AZ,⟨hl,vs,h1,h2,fun j l hj=>let⟨x,hx,hd,_⟩:=h3 j l hj;⟨x,hx,hd⟩⟩,hs,fun t ht=>?_⟩
 obtain⟨j,hj⟩:=aB.1 ht;obtain⟨x,_,_,hd⟩:=h3 j t hj;exact hd
end
section
open Go.RowKit
def first {α β:Type}(f:α->Option β):Nat->List α->Option (Nat×β)
 | _,[]=>none
 | i,x::xs=>match f x with
  | some y=>some (i,y)
  | none=>first f (i+1) xs
def SH {α β:Type}(f:α->Option β):∀ (l:List α)(i k:Nat)(x:α)(y:β),(∀ j z,j<k->l[j]?=some z->f z=none)->l[k]?=some x->f x=some y->first f i l=some (i+k,y)
 | [],i,k,x,y,_,h,_=>by simp at h
 | a::l,i,0,x,y,_,h,hy=>by
  simp only[ay,Zc]at h;subst h;simp[first,hy]
 | a::l,i,k+1,x,y,hn,h,hy=>by
  have ha:f a=none:=hn 0 a (by omega) rfl
  simp only[first,ha]
  rw[SH f l (i+1) k x y (fun j z hj hz=>hn (j+1) z (by omega) (by simpa using hz)) (by simpa using h) hy]
  congr 2;omega
def ft {α β:Type}(f:α->Option β):∀ (l:List α)(i:Nat),(∀ z ∈ l,f z=none)->first f i l=none
 | [],_,_=>rfl
 | a::l,i,h=>by simp only[first,h a (by simp)];exact ft f l (i+1) fun z hz=>h z (by simp[hz])
def Gn (d:Pg.D):Option Unit:=if Pg.right d=true then none else some ()
def GA (l:List Pg.D):Option Nat:=if l.length<1\/12<l.length then some 0 else (first Gn 0 l).map (·.1)
def GB (ls:List (List Pg.D)):Option (Nat×Nat):=if 6<ls.length then some (0,0) else first GA 0 ls
def check (AZ:List (List (List Pg.D))):Int×Nat×Nat×Nat:=
 if AZ.length<1\/8<AZ.length then (150,0,0,0)
 else match first GB 0 AZ with
  | some (t,b,n)=>(150,t,b,n)
  | none=>(0,0,0,0)
def G9 (r:Int×Nat×Nat×Nat):Ac:=Ak #[.int .i64 r.1,Al #[.int .i64 r.2.1,.int .i64 r.2.2.1,.int .i64 r.2.2.2]]
def UN:∀ (l:List Pg.D)(j:Nat)(d:Pg.D),l[j]?=some d ->
  (kl l)[j*5]?=some (.int .i64 d.k)/\(kl l)[j*5+1]?=some (.int .i64 d.a)/\(kl l)[j*5+2]?=some (.int .i64 d.b)/\(kl l)[j*5+3]?=some (.int .i64 d.i)/\(kl l)[j*5+4]?=some (.int .i64 d.n)
 | [],j,d,h=>by simp at h
 | q::l,0,d,h=>by
  simp only[ay,Zc]at h;subst h;exact⟨rfl,rfl,rfl,rfl,rfl⟩
 | q::l,j+1,d,h=>by
  have ih:=UN l j d (by simpa using h)
  have e:kl (q::l)=[.int .i64 q.k,.int .i64 q.a,.int .i64 q.b,.int .i64 q.i,.int .i64 q.n]++kl l:=rfl;rw[e,show (j+1)*5=j*5+5 from by omega]
  refine⟨?_,?_,?_,?_,?_⟩<;>rw[Ql (by simp)]
  ·simpa using ih.1
  ·simpa using ih.2.1
  ·simpa using ih.2.2.1
  ·simpa using ih.2.2.2.1
  ·simpa using ih.2.2.2.2
def UW {AZ:List (List (List Pg.D))}(h1:1<=AZ.length)(h8:AZ.length<=8){t:Nat}{ls:List (List Pg.D)}{b n:Nat}
  (hn:∀ (j:Nat)(z:List (List Pg.D)),j<t->AZ[j]?=some z->GB z=none)(ht:AZ[t]?=some ls)(he:GB ls=some (b,n)):check AZ=(150,t,b,n):=by
 unfold check;rw[if_neg (by omega),SH GB AZ 0 t ls (b,n) hn ht he]
 simp
def XO {AZ:List (List (List Pg.D))}(h1:1<=AZ.length)(h8:AZ.length<=8)
  (hn:∀ (j:Nat)(z:List (List Pg.D)),j<AZ.length->AZ[j]?=some z->GB z=none):check AZ=(0,0,0,0):=by
 unfold check;rw[if_neg (by omega),ft GB AZ 0 (fun z hz=>by obtain⟨j,hj⟩:=ai hz;exact hn j z (Qc.1 hj).1 hj)]
def KI {ls:List (List Pg.D)}(h6:ls.length<=6){b n:Nat}{l:List Pg.D}
  (hn:∀ (j:Nat)(z:List Pg.D),j<b->ls[j]?=some z->GA z=none)(hb:ls[b]?=some l)(he:GA l=some n):GB ls=some (b,n):=by
 unfold GB;rw[if_neg (by omega),SH GA ls 0 b l n hn hb he]
 simp
def YS {ls:List (List Pg.D)}(h6:ls.length<=6)(hn:∀ (j:Nat)(z:List Pg.D),j<ls.length->ls[j]?=some z->GA z=none):GB ls=none:=by
 unfold GB;rw[if_neg (by omega),ft GA ls 0 (fun z hz=>by obtain⟨j,hj⟩:=ai hz;exact hn j z (Qc.1 hj).1 hj)]
def NQ {l:List Pg.D}(h1:1<=l.length)(h12:l.length<=12){n:Nat}{d:Pg.D}
  (hn:∀ (j:Nat)(z:Pg.D),j<n->l[j]?=some z->Pg.right z=true)(hd:l[n]?=some d)(he:Pg.right d=false):GA l=some n:=by
 unfold GA;rw[if_neg (by omega),SH Gn l 0 n d () (fun j z hj hz=>by simp[Gn,hn j z hj hz]) hd (by simp[Gn,he])]
 simp
def YF {l:List Pg.D}(h1:1<=l.length)(h12:l.length<=12)(hn:∀ (j:Nat)(z:Pg.D),j<l.length->l[j]?=some z->Pg.right z=true):GA l=none:=by
 unfold GA;rw[if_neg (by omega),ft Gn l 0 (fun z hz=>by obtain⟨j,hj⟩:=ai hz;simp[Gn,hn j z (Qc.1 hj).1 hj])]
 rfl
def uc (v:Ac)(AZ:List (List (List Pg.D)))(w:Aa):Prop:=
 Ab Tryz.prog 19 #[v] w fun e w'=>e=O (G9 (check AZ))/\Ae w w w'
def qi3 (v:Ac)(AZ:List (List (List Pg.D)))(w:Aa)(h:BL w v AZ)(hl:AZ.length<1\/8<AZ.length):uc v AZ w:=by
 have he:check AZ=(150,0,0,0):=by unfold check;rw[if_pos hl]
 obtain⟨h0,vs,_,⟨a,c,rfl,_⟩,_⟩:=h;unfold uc G9;rw[he];unfold maxLen at h0;clear he;rcases hl with hl|hl
 ·go_in
  go_wp2;refine bodyPost_ret (v:=Ak #[.int .i64 150,Al #[.int .i64 0,.int .i64 0,.int .i64 0]]) (by simp[results,results19,go_sem]) rfl ⟨rfl,?_⟩
  repeat (first|exact Below.refl _ _|refine qc ?_ _|refine qo ?_ (by simp;try omega) _)
 ·go_in
  go_wp2;refine bodyPost_ret (v:=Ak #[.int .i64 150,Al #[.int .i64 0,.int .i64 0,.int .i64 0]]) (by simp[results,results19,go_sem]) rfl ⟨rfl,?_⟩
  repeat (first|exact Below.refl _ _|refine qc ?_ _|refine qo ?_ (by simp;try omega) _)
def XD (v:Ac)(AZ:List (List (List Pg.D)))(w:Aa)(h:BL w v AZ):uc v AZ w:=by
 by_cases hl:AZ.length<1\/8<AZ.length
 ·exact qi3 v AZ w h hl
 obtain⟨h0,vs,hvs,⟨a,c,rfl,hc⟩,hb⟩:=h;unfold uc;unfold maxLen at h0;have hl1:1<=AZ.length:=by omega
 have zM:AZ.length<=8:=by omega
 obtain⟨bb,off,rfl,hcc⟩:∃ b off,a=some ⟨b,off,none⟩/\∀ j x,vs[j]?=some x->w.cell? ⟨b,off+j,none⟩=some x:=by
  rcases hc with h|h
  ·rw[h]at hvs;simp at hvs;omega
  ·exact h
 have HC:=Qa hcc;have HB:=Qa hb;have hbs:bb<w.1.size:=by
  obtain⟨x,hx⟩:∃ x,vs[0]?=some x:=⟨vs[0]'(by omega),Qb (by omega)⟩
  exact xy (hcc 0 x hx)
 clear hl hc hcc hb hvs;go_in;go_wp2_with fail;go_loopw [21,4,5,6,7,8,9] (fun ix _ _ _ _ _ _ wr=>∃ t:Nat,ix=.int .i64 t/\t<=AZ.length/\Q2 (∀ (j:Nat)(z:List (List Pg.D)),j<t->AZ[j]?=some z->GB z=none)/\An wr w #[.int .i64 0,.int .i64 0,.int .i64 0] 55/\Ae w w wr) (fun ix _ _ _ _ _ _ _=>AZ.length-(intOf ix).toNat)
 case atStart=>exact⟨0,rfl,by omega,Qa (fun j z h=>by omega),An.new _ _ _,qc (Below.refl _ _) _⟩
 case round =>
  obtain⟨t,rfl,ht,hok,jR,hbr⟩:=hrel;obtain⟨wo,rfl⟩:=Ja0 wr;have cR:=jR.cell;have zR:=jR.free;have sR:=jR.lt;by_cases hlt:t<AZ.length
  ·obtain⟨ls,hls⟩:∃ ls,AZ[t]?=some ls:=⟨AZ[t],Qb hlt⟩
   obtain⟨u,hu,hbu⟩:=HB.o t ls hls;have qt:=(hbr.cell (p:=⟨bb,off+t,none⟩) hbs).trans (HC.o t u hu);obtain⟨hL0,us,lC,⟨a2,c2,rfl,hc2⟩,hb2⟩:=hbu;unfold maxLen at hL0;have vO:=Qa hls;have ig:=Qa hc2;have HB2:=Qa hb2;clear hls hu hc2 hb2;by_cases h6:6<ls.length
   ·have he:=UW hl1 zM hok.out vO.o (show GB ls=some (0,0) by unfold GB;rw[if_pos h6])
    have HE:=Qa he;clear he lC;go_wp2_with fail;refine bodyPost_ret (v:=Ak #[.int .i64 150,Al #[.int .i64 t,.int .i64 0,.int .i64 0]]) (by simp[results,results19,go_sem,cR]) rfl ?_
    refine⟨by rw[HE.o];rfl,?_⟩
    repeat (first|exact hbr|refine qo ?_ (Qk _) _)
   ·go_wp2_with fail
    go_loopw [33,6,7,8,9] (fun ix _ _ _ _ wr=>∃ b:Nat,ix=.int .i64 b/\b<=ls.length/\Q2 (∀ (j:Nat)(z:List Pg.D),j<b->ls[j]?=some z->GA z=none)/\An wr w #[.int .i64 0,.int .i64 0,.int .i64 0] 55/\Ae w w wr) (fun ix _ _ _ _ _=>ls.length-(intOf ix).toNat)
    case atStart=>exact⟨0,rfl,by omega,Qa (fun j z h=>by omega),jR,hbr⟩
    case round =>
     clear cR zR sR jR hbr;obtain⟨b,rfl,hb,rX,jR,hbr⟩:=hrel;obtain⟨wo2,rfl⟩:=Ja0 wr;have cR:=jR.cell;have zR:=jR.free;have sR:=jR.lt;by_cases Alu:b<ls.length
     ·obtain⟨l,hl⟩:∃ l,ls[b]?=some l:=⟨ls[b],Qb Alu⟩
      obtain⟨u2,hu2,Ale⟩:=HB2.o b l hl;obtain⟨bb2,dW,rfl,Acw⟩:∃ b off,a2=some ⟨b,off,none⟩/\∀ j x,us[j]?=some x->w.cell? ⟨b,off+j,none⟩=some x:=by
       rcases ig.o with h|h
       ·rw[h]at lC;simp at lC;omega
       ·exact h
      have hq2:=Acw b u2 hu2;have q2:=(hbr.cell (p:=⟨bb2,dW+b,none⟩) (xy hq2)).trans hq2;obtain⟨hL2,a3,c3,rfl,hc3⟩:=Ale;unfold maxLen at hL2;have HL:=Qa hl;have yG:=Qa hc3;clear hl hu2 hq2 Acw hc3;by_cases h12:l.length<1\/12<l.length
      ·have he:=UW hl1 zM hok.out vO.o (KI (by omega) rX.out HL.o (show GA l=some 0 by unfold GA;rw[if_pos h12]))
       have HE:=Qa he;clear he lC;rcases h12 with h12|h12
       all_goals
        go_wp2_with fail;refine bodyPost_ret (v:=Ak #[.int .i64 150,Al #[.int .i64 t,.int .i64 b,.int .i64 0]]) (by simp[results,results19,go_sem,cR]) rfl ?_
        refine⟨by rw[HE.o];rfl,?_⟩
        repeat (first|exact hbr|refine qo ?_ (Qk _) _)
      ·have hm1:1<=l.length:=by omega
       have Adk:l.length<=12:=by omega
       clear h12;go_wp2_with fail;go_loopw [51,8,9] (fun ix _ _ wr=>∃ n:Nat,ix=.int .i64 n/\n<=l.length/\Q2 (∀ (j:Nat)(z:Pg.D),j<n->l[j]?=some z->Pg.right z=true)/\An wr w #[.int .i64 0,.int .i64 0,.int .i64 0] 55/\Ae w w wr) (fun ix _ _ _=>l.length-(intOf ix).toNat)
       case atStart=>exact⟨0,rfl,by omega,Qa (fun j z h=>by omega),jR,hbr⟩
       case round =>
        clear cR zR sR jR hbr;obtain⟨n,rfl,hn,xJ,jR,hbr⟩:=hrel;have cR:=jR.cell;have zR:=jR.free;have sR:=jR.lt;by_cases Alv:n<l.length
        ·obtain⟨d,hd⟩:∃ d,l[n]?=some d:=⟨l[n],Qb Alv⟩
         obtain⟨bb3,nJ,rfl,mM⟩:∃ b off,a3=some ⟨b,off,none⟩/\∀ j x,(kl l)[j]?=some x->w.cell? ⟨b,off+j,none⟩=some x:=by
          rcases yG.o with h|h
          ·have:=(UN l n d hd).1;rw[h]at this;simp at this
          ·exact h
         obtain⟨f0,f1,f2,f3,f4⟩:=UN l n d hd;have e0:=mM _ _ f0;have hb3:=xy e0;have e0:=(hbr.cell (p:=⟨bb3,nJ+n*5,none⟩) hb3).trans e0;have e1:=(hbr.cell (p:=⟨bb3,nJ+(n*5+1),none⟩) hb3).trans (mM _ _ f1);have e2:=(hbr.cell (p:=⟨bb3,nJ+(n*5+2),none⟩) hb3).trans (mM _ _ f2);have e3:=(hbr.cell (p:=⟨bb3,nJ+(n*5+3),none⟩) hb3).trans (mM _ _ f3);have e4:=(hbr.cell (p:=⟨bb3,nJ+(n*5+4),none⟩) hb3).trans (mM _ _ f4);simp only[<-Nat.add_assoc]at e1 e2 e3 e4;have HD:=Qa hd;clear hd mM f0 f1 f2 f3 f4;go_wp2_with fail;refine (Xb _ _ _ _ _ _).mono ?_;rintro e w3 ⟨rfl,hb4⟩;have mR:=(jR.alloc _).below hb4 (jR.alloc _).lt;have nR:=mR.cell;have nz:=mR.free;have ns:=mR.lt;have hbw:=qe (qc hbr _) hb4;clear cR zR sR jR hbr e0 e1 e2 e3 e4
         cases hri:Pg.right ⟨d.k,d.a,d.b,d.i,d.n⟩
         ·have he:=UW hl1 zM hok.out vO.o (KI (by omega) rX.out HL.o (NQ hm1 Adk xJ.out HD.o hri))
          have HE:=Qa he;clear he hri;go_wp2_with fail;refine bodyPost_ret (v:=Ak #[.int .i64 150,Al #[.int .i64 t,.int .i64 b,.int .i64 n]]) (by simp[results,results19,go_sem,nR]) rfl ?_
          refine⟨by rw[HE.o];rfl,?_⟩
          repeat (first|exact hbw|refine qo ?_ (Qk _) _)
         ·have HRI:=Qa hri
          clear hri;go_wp2_with fail;go_roundw
          case rel =>
           refine⟨n+1,by go_num,by omega,Qa (fun j z hj hz=>?_),mR,hbw⟩
           by_cases e:j=n
           ·subst e
            rw[HD.o]at hz;injection hz with hz;rw[<-hz];exact HRI.o
           ·exact xJ.out j z (by omega) hz
          case measure=>simp[intOf];omega
        ·obtain rfl:n=l.length:=by omega
         have he:=YF hm1 Adk xJ.out;have HE:=Qa he;clear he;go_wp2_with fail;go_roundw
         case rel =>
          refine⟨b+1,by go_num,by omega,Qa (fun j z hj hz=>?_),jR,hbr⟩
          by_cases e:j=b
          ·subst e
           rw[HL.o]at hz;injection hz with hz;rw[<-hz];exact HE.o
          ·exact rX.out j z (by omega) hz
         case measure=>simp[intOf];omega
     ·obtain rfl:b=ls.length:=by omega
      have he:=YS (by omega) rX.out
      have HE:=Qa he;clear he lC;go_wp2_with fail;go_roundw
      case rel =>
       refine⟨t+1,by go_num,by omega,Qa (fun j z hj hz=>?_),jR,hbr⟩
       by_cases e:j=t
       ·subst e
        rw[vO.o]at hz;injection hz with hz;rw[<-hz];exact HE.o
       ·exact hok.out j z (by omega) hz
      case measure=>simp[intOf];omega
  ·obtain rfl:t=AZ.length:=by omega
   have he:=XO hl1 zM hok.out;have HE:=Qa he;clear he;go_wp2_with fail;refine bodyPost_ret (v:=Ak #[.int .i64 0,Al #[.int .i64 0,.int .i64 0,.int .i64 0]]) (by simp[results,results19,go_sem,cR]) rfl ?_
   refine⟨by rw[HE.o];rfl,?_⟩
   repeat (first|exact hbr|refine qo ?_ (Qk _) _)
