import Derived.Test.YteehgedabdchcaaGreatKbc
import Derived.ChangeSame
import Derived.Deep.Fields
import Derived.Deep.Slices
set_option linter.all false
set_option maxRecDepth 1000000
set_option maxHeartbeats 16000000
namespace Go.Proofs.YteehgedabdchcaaGreat
open Go.RowKit Go.ChangeShapes Go.WideShapes Go.Deep
def Sl (w:World)(v:Value)(n:Nat)(cs:List Value):Prop:=
 ∃ a c,v=.slice a n c∧(cs=[]∨∃ b off,a=some ⟨b,off,none⟩∧∀ j x,cs[j]?=some x→w.cell? ⟨b,off+j,none⟩=some x)
theorem ww {w:World}{b o:Nat}{v:Value}(h:w.cell? ⟨b,o,none⟩=some v):b<w.heap.size:=by
 unfold World.cell? at h;split at h
 ·rename_i h';exact (Array.getElem?_eq_some_iff.1 h').1
 ·cases h
theorem Sl.below {w w':World}{v:Value}{n:Nat}{cs:List Value}(h:Sl w v n cs)(k:Below w.heap.size w w'):Sl w' v n cs:=by
 obtain⟨a,c,rfl,h0⟩:=h;refine⟨a,c,rfl,h0.imp id ?_⟩
 rintro⟨b,off,rfl,h⟩
 refine⟨b,off,rfl,fun j x hx=>?_⟩
 have hc:=h j x hx;have hlt:b<w.heap.size:=by
  unfold World.cell? at hc;split at hc
  ·rename_i h';exact (Array.getElem?_eq_some_iff.1 h').1
  ·cases hc
 exact (k.cell (p:=⟨b,off+j,none⟩) hlt).trans hc
theorem Sl.blk {w:World}{g n c:Nat}{cs:Array Value}{t:TypeId}(h:Blk w g cs t):Sl w (.slice (some ⟨g,0,none⟩) n c) n cs.toList:=
 ⟨_,_,rfl,.inr ⟨g,0,rfl,fun j x hx=>by rw[h.cell];simpa using hx⟩⟩
theorem Sl.nil (w:World):Sl w (.slice none 0 0) 0 []:=⟨_,_,rfl,.inl rfl⟩
def jt (l:List Pg.D):List Value:=l.flatMap fun d=>(zz d).toList
def DeedsAt (w:World)(v:Value)(l:List Pg.D):Prop:=l.length≤maxLen∧Sl w v l.length (jt l)
def BlocksAt (w:World)(v:Value)(ls:List (List Pg.D)):Prop:=
 ls.length≤maxLen∧∃ vs:List Value,vs.length=ls.length∧Sl w v ls.length vs∧∀ (j:Nat)(l:List Pg.D),ls[j]?=some l→∃ u:Value,vs[j]?=some u∧DeedsAt w u l
def ThreadsAt (w:World)(v:Value)(ths:List (List (List Pg.D))):Prop:=
 ths.length≤maxLen∧∃ vs:List Value,vs.length=ths.length∧Sl w v ths.length vs∧∀ (j:Nat)(l:List (List Pg.D)),ths[j]?=some l→∃ u:Value,vs[j]?=some u∧BlocksAt w u l
theorem DeedsAt.below {w w':World}{v:Value}{l:List Pg.D}(h:DeedsAt w v l)(k:Below w.heap.size w w'):DeedsAt w' v l:=⟨h.1,h.2.below k⟩
theorem BlocksAt.below {w w':World}{v:Value}{l:List (List Pg.D)}(h:BlocksAt w v l)(k:Below w.heap.size w w'):BlocksAt w' v l:=by
 obtain⟨h0,vs,h1,h2,h3⟩:=h;exact⟨h0,vs,h1,h2.below k,fun j l hl=>let⟨u,hu,hd⟩:=h3 j l hl;⟨u,hu,hd.below k⟩⟩
theorem ThreadsAt.below {w w':World}{v:Value}{l:List (List (List Pg.D))}(h:ThreadsAt w v l)(k:Below w.heap.size w w'):ThreadsAt w' v l:=by
 obtain⟨h0,vs,h1,h2,h3⟩:=h;exact⟨h0,vs,h1,h2.below k,fun j l hl=>let⟨u,hu,hd⟩:=h3 j l hl;⟨u,hu,hd.below k⟩⟩
section
variable {H : Type} {enc : TypeId × Value → H} {P : Program} {w : World} {base : Nat} {spare : Nat → Bool} {held : Bool}
theorem nn {t e:TypeId}{fs:Array Field}{fuel:Nat}{cs:List Value}{x:DataW H×List MemPlace}(ht:P.underlying t=some (.slice e))(he:P.underlying e=some (.struct fs))
  (hone:oneCellFields P fs=true)(hC:P.cellsOf e=fs.size)(h:DataW.trod enc P w base spare held fuel t cs=some x) :
  (cs=[.slice none 0 0]∧x=(.nil,[])) ∨
  ∃ (a:Addr)(len cap m:Nat)(D:Nat→DataW H)(Pl:Nat→List MemPlace),cs=[.slice (some a) len cap]∧base≤a.block∧len≤cap∧cap≤maxLen∧m=(if spare a.block then cap else len) ∧
   x=(.slice ((List.range len).map D) ((List.range (m-len)).map fun j=>D (len+j)),MemPlace.row a (m*fs.size)++(List.range m).flatMap Pl) ∧
   ∀ i,i<m→∃ (ys:List (DataW H×List MemPlace))(n:Nat),D i=.agg (ys.map (·.1))∧Pl i=ys.flatMap (·.2)∧ys.length=fs.size ∧
    ∀ (j:Nat)(f:Field),fs[j]?=some f→∃ (v:Value)(y:DataW H×List MemPlace),w.cell? (a.add (i*fs.size+j))=some v∧ys[j]?=some y∧DataW.trod enc P w base spare held n f.type [v]=some y:=by
 rcases open_slice ht h with h0|⟨a,len,cap,m,n,D,Pl,hcs,hb,hl,hm,hmm,hx,hi⟩
 ·exact .inl h0
 ·refine .inr ⟨a,len,cap,m,D,Pl,hcs,hb,hl,hm,hmm,by rw[hC]at hx;exact hx,fun i him=>?_⟩
  obtain⟨cs',hc,ht'⟩:=hi i him;rw[hC]at hc;obtain⟨ys,n',hn',hy,hlen,hyl,hf⟩:=DataW.trod_struct he ht';obtain⟨_,hcl,hat⟩:=World.cells?_some hc;simp only[Prod.mk.injEq]at hy;refine⟨ys,n',hy.1,hy.2,hyl,fun j f hj=>?_⟩
  obtain⟨ho,hk⟩:=hone_of hone j f hj;have hjl:j<fs.size:=(Array.getElem?_eq_some_iff.1 hj).1;have hcell:=hat j hjl;have hv:cs'[j]?=some (cs'[j]'(by omega)):=List.getElem?_eq_getElem (by omega)
  have h1:=hf j f hj;rw[ho,hk]at h1;have hone':(cs'.drop j).take 1=[cs'[j]'(by omega)]:=by
   rw[List.drop_eq_getElem_cons (by omega)]
   rfl
  rw[hone']at h1;have hys:ys[j]?=some (ys[j]'(by omega)):=List.getElem?_eq_getElem (by omega)
  refine⟨_,_,?_,hys,h1.trans hys⟩;rw[←Go.Deep.add_add,hcell,hv]
def SlOk (v:Value):Prop:=∃ a n c,v=.slice a n c∧n≤c∧c≤maxLen
theorem mz {a:Addr}{v:Value}(h:w.cell? a=some v):a=⟨a.block,a.off,none⟩:=by
 obtain⟨b,o,s⟩:=a;unfold World.cell? at h;split at h
 ·cases s with
  | none=>rfl
  | some x=>simp at h
 ·cases h
theorem bm (b o j:Nat):(⟨b,o,none⟩:Addr).add j=⟨b,o+j,none⟩:=by unfold Addr.add;split<;>simp_all
def DI (d:Pg.D):Prop:=Z64 d.k∧Z64 d.a∧Z64 d.b∧Z64 d.i∧Z64 d.n
instance : Inhabited Pg.D := ⟨⟨0, 0, 0, 0, 0⟩⟩
theorem da:∀ (l:List Pg.D)(j:Nat),(jt l)[j]?=(l[j/5]?).bind fun d=>(zz d)[j%5]?
 | [],j=>by simp[jt]
 | d::l,j=>by
  have e:jt (d::l)=(zz d).toList++jt l:=rfl;have hs:(zz d).toList.length=5:=rfl;rw[e];by_cases h:j<5
  ·rw[List.getElem?_append_left (by omega),show j/5=0 from by omega,show j%5=j from by omega];simp
  ·rw[List.getElem?_append_right (by omega),hs,da l (j-5),show j/5=(j-5)/5+1 from by omega,show j%5=(j-5)%5 from by omega];simp
theorem qja {t e i:TypeId}{f0 f1 f2 f3 f4:Field}{fuel:Nat}{cs:List Value}{x:DataW H×List MemPlace}(ht:P.underlying t=some (.slice e))(he:P.underlying e=some (.struct #[f0,f1,f2,f3,f4]))
  (hi:P.underlying i=some (.int .i64))(e0:f0.type=i)(e1:f1.type=i)(e2:f2.type=i)(e3:f3.type=i)(e4:f4.type=i)
  (hone:oneCellFields P #[f0,f1,f2,f3,f4]=true)(hC:P.cellsOf e=5)(h:DataW.trod enc P w base spare held fuel t cs=some x) :
  ∃ v l,cs=[v]∧DeedsAt w v l∧SlOk v∧∀ d ∈ l,DI d:=by
 rcases nn ht he hone hC h with⟨rfl,_⟩|⟨a,len,cap,m,D,Pl,rfl,_,hl,hm,hmm,_,hx⟩
 ·exact⟨_,[],rfl,⟨by simp,Sl.nil w⟩,⟨_,_,_,rfl,by omega,by simp[maxLen]⟩,fun d hd=>by cases hd⟩
 have hle:len≤m:=by rw[hmm];split<;>omega
 have key:∀ k,k<len→∃ d:Pg.D,(∀ r,r<5→w.cell? (a.add (k*5+r))=(zz d)[r]?)∧DI d:=by
  intro k hk;obtain⟨ys,n,_,_,_,hf⟩:=hx k (by omega)
  obtain⟨v0,y0,c0,_,t0⟩:=hf 0 f0 rfl;obtain⟨v1,y1,c1,_,t1⟩:=hf 1 f1 rfl;obtain⟨v2,y2,c2,_,t2⟩:=hf 2 f2 rfl;obtain⟨v3,y3,c3,_,t3⟩:=hf 3 f3 rfl;obtain⟨v4,y4,c4,_,t4⟩:=hf 4 f4 rfl;rw[e0]at t0;rw[e1]at t1;rw[e2]at t2;rw[e3]at t3;rw[e4]at t4;obtain⟨z0,q0,_,w0⟩:=DataW.trod_int hi t0;obtain⟨z1,q1,_,w1⟩:=DataW.trod_int hi t1;obtain⟨z2,q2,_,w2⟩:=DataW.trod_int hi t2;obtain⟨z3,q3,_,w3⟩:=DataW.trod_int hi t3;obtain⟨z4,q4,_,w4⟩:=DataW.trod_int hi t4;simp only[List.cons.injEq,and_true]at q0 q1 q2 q3 q4;subst q0 q1 q2 q3 q4;refine⟨⟨z0,z1,z2,z3,z4⟩,fun r hr=>?_,d8 w0,d8 w1,d8 w2,d8 w3,d8 w4⟩
  obtain rfl|rfl|rfl|rfl|rfl:r=0∨r=1∨r=2∨r=3∨r=4:=by omega
  ·exact c0
  ·exact c1
  ·exact c2
  ·exact c3
  ·exact c4
 obtain⟨F,hF⟩:=choose_lt key;refine⟨_,(List.range len).map F,rfl,⟨by simp;omega,?_⟩,⟨_,_,_,rfl,hl,hm⟩,?_⟩
 ·refine⟨_,_,by rw[List.length_map,List.length_range],?_⟩
  by_cases h0:len=0
  ·left;subst h0;rfl
  ·right
   have hc0:=(hF 0 (by omega)).1 0 (by omega)
   rw[Nat.zero_mul,Nat.add_zero]at hc0;have ha0:a.add 0=a:=by unfold Addr.add;simp
   rw[ha0]at hc0;have hp:=mz (hc0.trans (show (zz (F 0))[0]?=some (.int .i64 (F 0).k) from rfl));refine⟨a.block,a.off,by rw[←hp],fun j x hj=>?_⟩
   rw[da]at hj;obtain⟨d,hd,hr⟩:=Option.bind_eq_some_iff.1 hj;rw[List.getElem?_map]at hd;obtain⟨q,hq,rfl⟩:=Option.map_eq_some_iff.1 hd;have hql:j/5<len:=by have:=(List.getElem?_eq_some_iff.1 hq).1;simpa using this
   obtain rfl:j/5=q:=by
    rw[List.getElem?_range hql]at hq;exact Option.some.inj hq
   have hc:=(hF (j/5) hql).1 (j%5) (by omega)
   rw[hr,show j/5*5+j%5=j from by omega,hp,bm]at hc
   exact hc
 ·intro d hd
  obtain⟨q,hq,rfl⟩:=List.mem_map.1 hd;exact (hF q (List.mem_range.1 hq)).2
theorem qeq {α:Type}[Inhabited α]{t e:TypeId}{fuel:Nat}{cs:List Value}{x:DataW H×List MemPlace}(ht:P.underlying t=some (.slice e))(hC:P.cellsOf e=1)(R:Value→α→Prop)
  (hR:∀ (n:Nat)(u:Value)(y:DataW H×List MemPlace),DataW.trod enc P w base spare held n e [u]=some y→∃ l,R u l)
  (h:DataW.trod enc P w base spare held fuel t cs=some x) :
  ∃ (v:Value)(ls:List α),cs=[v]∧SlOk v∧ls.length≤maxLen∧∃ vs:List Value,vs.length=ls.length∧Sl w v ls.length vs∧∀ (j:Nat)(l:α),ls[j]?=some l→∃ u:Value,vs[j]?=some u∧R u l:=by
 rcases open_slice1 ht hC h with⟨rfl,_⟩|⟨a,len,cap,m,n,V,D,Pl,rfl,_,hl,hm,hmm,_,hx⟩
 ·exact⟨_,[],rfl,⟨_,_,_,rfl,by omega,by simp[maxLen]⟩,by simp,[],rfl,Sl.nil w,fun j l hj=>by simp at hj⟩
 have hle:len≤m:=by rw[hmm];split<;>omega
 have key:∀ k,k<len→∃ l:α,R (V k) l:=fun k hk=>hR n _ _ (hx k (by omega)).2
 obtain⟨F,hF⟩:=choose_lt key;refine⟨_,(List.range len).map F,rfl,⟨_,_,_,rfl,hl,hm⟩,by simp;omega,(List.range len).map V,by simp,?_,?_⟩
 ·refine⟨_,_,by rw[List.length_map,List.length_range],?_⟩
  by_cases h0:len=0
  ·left;subst h0;rfl
  ·right
   have hc0:=(hx 0 (by omega)).1
   have ha0:a.add 0=a:=by unfold Addr.add;simp
   rw[ha0]at hc0;have hp:=mz hc0;refine⟨a.block,a.off,by rw[←hp],fun j x hj=>?_⟩
   rw[List.getElem?_map]at hj;obtain⟨q,hq,rfl⟩:=Option.map_eq_some_iff.1 hj;have hql:j<len:=by have:=(List.getElem?_eq_some_iff.1 hq).1;simpa using this
   obtain rfl:j=q:=by
    rw[List.getElem?_range hql]at hq;exact Option.some.inj hq
   have hc:=(hx j (by omega)).1
   rw[hp,bm]at hc;exact hc
 ·intro j l hj
  rw[List.getElem?_map]at hj;obtain⟨q,hq,rfl⟩:=Option.map_eq_some_iff.1 hj;have hql:j<len:=by have:=(List.getElem?_eq_some_iff.1 hq).1;simpa using this
  obtain rfl:j=q:=by
   rw[List.getElem?_range hql]at hq;exact Option.some.inj hq
  exact⟨V j,by simp[hql],hF j hql⟩
end
def TI (ths:List (List (List Pg.D))):Prop:=∀ t ∈ ths,∀ b ∈ t,∀ d ∈ b,DI d
theorem mg {H:Type}{enc:TypeId×Value→H}{w:World}{base:Nat}{spare:Nat→Bool}{held:Bool}{v:Value}{d:DataW H}{p:List MemPlace}(h:DataW.Trod enc Tryz.prog w base spare held 47 v d p)
  {r:Reach}{b0:Nat}(hv:Value.okWide Tryz.prog w r b0 47 v) :
  ∃ ths,ThreadsAt w v ths∧SlOk v∧TI ths:=by
 obtain⟨fuel,h⟩:=h
 have hb:∀ (n:Nat)(u:Value)(y:DataW H×List MemPlace),DataW.trod enc Tryz.prog w base spare held n 71 [u]=some y→∃ l,DeedsAt w u l∧∀ d ∈ l,DI d:=by
  intro n u y hy;obtain⟨v',l,hv',h1,_,h3⟩:=qja (i:=3) Tryz.underlying71 Tryz.underlying73 Tryz.underlying3 rfl rfl rfl rfl rfl (by kernel_rfl) (by kernel_rfl) hy
  simp only[List.cons.injEq,and_true]at hv';subst hv';exact⟨l,h1,h3⟩
 have ht:∀ (n:Nat)(u:Value)(y:DataW H×List MemPlace),DataW.trod enc Tryz.prog w base spare held n 67 [u]=some y→∃ ls,BlocksAt w u ls∧∀ b ∈ ls,∀ d ∈ b,DI d:=by
  intro n u y hy;obtain⟨v',ls,hv',_,hl,vs,h1,h2,h3⟩:=qeq Tryz.underlying67 (by kernel_rfl) (fun u l=>DeedsAt w u l∧∀ d ∈ l,DI d) hb hy
  simp only[List.cons.injEq,and_true]at hv';subst hv';refine⟨ls,⟨hl,vs,h1,h2,fun j l hj=>let⟨x,hx,hd,_⟩:=h3 j l hj;⟨x,hx,hd⟩⟩,fun b hb=>?_⟩
  obtain⟨j,hj⟩:=List.mem_iff_getElem?.1 hb;obtain⟨x,_,_,hd⟩:=h3 j b hj;exact hd
 obtain⟨a,n,c,rfl⟩:=okWide_slice Tryz.underlying47 hv;have h':DataW.trod enc Tryz.prog w base spare held fuel 47 [.slice a n c]=some (d,p):=h;obtain⟨v',ths,hv',hs,hl,vs,h1,h2,h3⟩:=qeq Tryz.underlying47 (by kernel_rfl) (fun u ls=>BlocksAt w u ls∧∀ b ∈ ls,∀ d ∈ b,DI d) ht h'
 simp only[List.cons.injEq,and_true]at hv';subst hv';refine⟨ths,⟨hl,vs,h1,h2,fun j l hj=>let⟨x,hx,hd,_⟩:=h3 j l hj;⟨x,hx,hd⟩⟩,hs,fun t ht=>?_⟩
 obtain⟨j,hj⟩:=List.mem_iff_getElem?.1 ht;obtain⟨x,_,_,hd⟩:=h3 j t hj;exact hd
end Go.Proofs.YteehgedabdchcaaGreat
namespace Go.Proofs.YteehgedabdchcaaGreat
open Go.RowKit
def first {α β:Type}(f:α→Option β):Nat→List α→Option (Nat×β)
 | _,[]=>none
 | i,x::xs=>match f x with
  | some y=>some (i,y)
  | none=>first f (i+1) xs
theorem rz {α β:Type}(f:α→Option β):∀ (l:List α)(i k:Nat)(x:α)(y:β),(∀ j z,j<k→l[j]?=some z→f z=none)→l[k]?=some x→f x=some y→first f i l=some (i+k,y)
 | [],i,k,x,y,_,h,_=>by simp at h
 | a::l,i,0,x,y,_,h,hy=>by
  simp only[List.getElem?_cons_zero,Option.some.injEq]at h;subst h;simp[first,hy]
 | a::l,i,k+1,x,y,hn,h,hy=>by
  have ha:f a=none:=hn 0 a (by omega) rfl
  simp only[first,ha]
  rw[rz f l (i+1) k x y (fun j z hj hz=>hn (j+1) z (by omega) (by simpa using hz)) (by simpa using h) hy]
  congr 2;omega
theorem pg {α β:Type}(f:α→Option β):∀ (l:List α)(i:Nat),(∀ z ∈ l,f z=none)→first f i l=none
 | [],_,_=>rfl
 | a::l,i,h=>by simp only[first,h a (by simp)];exact pg f l (i+1) fun z hz=>h z (by simp[hz])
def dErr (d:Pg.D):Option Unit:=if Pg.right d=true then none else some ()
def qag (l:List Pg.D):Option Nat:=if l.length<1∨12<l.length then some 0 else (first dErr 0 l).map (·.1)
def ly (ls:List (List Pg.D)):Option (Nat×Nat):=if 6<ls.length then some (0,0) else first qag 0 ls
def check (ths:List (List (List Pg.D))):Int×Nat×Nat×Nat:=
 if ths.length<1∨8<ths.length then (150,0,0,0)
 else match first ly 0 ths with
  | some (t,b,n)=>(150,t,b,n)
  | none=>(0,0,0,0)
def checkV (r:Int×Nat×Nat×Nat):Value:=.tuple #[.int .i64 r.1,.agg #[.int .i64 r.2.1,.int .i64 r.2.2.1,.int .i64 r.2.2.2]]
theorem qcz:∀ (l:List Pg.D)(j:Nat)(d:Pg.D),l[j]?=some d →
  (jt l)[j*5]?=some (.int .i64 d.k)∧(jt l)[j*5+1]?=some (.int .i64 d.a)∧(jt l)[j*5+2]?=some (.int .i64 d.b)∧(jt l)[j*5+3]?=some (.int .i64 d.i)∧(jt l)[j*5+4]?=some (.int .i64 d.n)
 | [],j,d,h=>by simp at h
 | q::l,0,d,h=>by
  simp only[List.getElem?_cons_zero,Option.some.injEq]at h;subst h;exact⟨rfl,rfl,rfl,rfl,rfl⟩
 | q::l,j+1,d,h=>by
  have ih:=qcz l j d (by simpa using h)
  have e:jt (q::l)=[.int .i64 q.k,.int .i64 q.a,.int .i64 q.b,.int .i64 q.i,.int .i64 q.n]++jt l:=rfl;rw[e,show (j+1)*5=j*5+5 from by omega]
  refine⟨?_,?_,?_,?_,?_⟩<;>rw[List.getElem?_append_right (by simp)]
  ·simpa using ih.1
  ·simpa using ih.2.1
  ·simpa using ih.2.2.1
  ·simpa using ih.2.2.2.1
  ·simpa using ih.2.2.2.2
theorem qft {ths:List (List (List Pg.D))}(h1:1≤ths.length)(h8:ths.length≤8){t:Nat}{ls:List (List Pg.D)}{b n:Nat}
  (hn:∀ (j:Nat)(z:List (List Pg.D)),j<t→ths[j]?=some z→ly z=none)(ht:ths[t]?=some ls)(he:ly ls=some (b,n)):check ths=(150,t,b,n):=by
 unfold check;rw[if_neg (by omega),rz ly ths 0 t ls (b,n) hn ht he]
 simp
theorem qhs {ths:List (List (List Pg.D))}(h1:1≤ths.length)(h8:ths.length≤8)
  (hn:∀ (j:Nat)(z:List (List Pg.D)),j<ths.length→ths[j]?=some z→ly z=none):check ths=(0,0,0,0):=by
 unfold check;rw[if_neg (by omega),pg ly ths 0 (fun z hz=>by obtain⟨j,hj⟩:=List.getElem?_of_mem hz;exact hn j z (List.getElem?_eq_some_iff.1 hj).1 hj)]
theorem tErr_b {ls:List (List Pg.D)}(h6:ls.length≤6){b n:Nat}{l:List Pg.D}
  (hn:∀ (j:Nat)(z:List Pg.D),j<b→ls[j]?=some z→qag z=none)(hb:ls[b]?=some l)(he:qag l=some n):ly ls=some (b,n):=by
 unfold ly;rw[if_neg (by omega),rz qag ls 0 b l n hn hb he]
 simp
theorem qkx {ls:List (List Pg.D)}(h6:ls.length≤6)(hn:∀ (j:Nat)(z:List Pg.D),j<ls.length→ls[j]?=some z→qag z=none):ly ls=none:=by
 unfold ly;rw[if_neg (by omega),pg qag ls 0 (fun z hz=>by obtain⟨j,hj⟩:=List.getElem?_of_mem hz;exact hn j z (List.getElem?_eq_some_iff.1 hj).1 hj)]
theorem bErr_n {l:List Pg.D}(h1:1≤l.length)(h12:l.length≤12){n:Nat}{d:Pg.D}
  (hn:∀ (j:Nat)(z:Pg.D),j<n→l[j]?=some z→Pg.right z=true)(hd:l[n]?=some d)(he:Pg.right d=false):qag l=some n:=by
 unfold qag;rw[if_neg (by omega),rz dErr l 0 n d () (fun j z hj hz=>by simp[dErr,hn j z hj hz]) hd (by simp[dErr,he])]
 simp
theorem qkq {l:List Pg.D}(h1:1≤l.length)(h12:l.length≤12)(hn:∀ (j:Nat)(z:Pg.D),j<l.length→l[j]?=some z→Pg.right z=true):qag l=none:=by
 unfold qag;rw[if_neg (by omega),pg dErr l 0 (fun z hz=>by obtain⟨j,hj⟩:=List.getElem?_of_mem hz;simp[dErr,hn j z (List.getElem?_eq_some_iff.1 hj).1 hj])]
 rfl
def ye (v:Value)(ths:List (List (List Pg.D)))(w:World):Prop:=
 Calls Tryz.prog 86 #[v] w fun e w'=>e=.returned (checkV (check ths))∧Below w.heap.size w w'
theorem qg7 (v:Value)(ths:List (List (List Pg.D)))(w:World)(h:ThreadsAt w v ths)(hl:ths.length<1∨8<ths.length):ye v ths w:=by
 have he:check ths=(150,0,0,0):=by unfold check;rw[if_pos hl]
 obtain⟨h0,vs,_,⟨a,c,rfl,_⟩,_⟩:=h;unfold ye checkV;rw[he];unfold maxLen at h0;clear he;rcases hl with hl|hl
 ·go_enter Tryz.func86,Tryz.ntmps86
  go_wp2;refine bodyPost_ret (v:=.tuple #[.int .i64 150,.agg #[.int .i64 0,.int .i64 0,.int .i64 0]]) (by simp[results,Tryz.results86,go_sem]) rfl ⟨rfl,?_⟩
  repeat (first|exact Below.refl _ _|refine qa ?_ _|refine qo ?_ (by simp;try omega) _)
 ·go_enter Tryz.func86,Tryz.ntmps86
  go_wp2;refine bodyPost_ret (v:=.tuple #[.int .i64 150,.agg #[.int .i64 0,.int .i64 0,.int .i64 0]]) (by simp[results,Tryz.results86,go_sem]) rfl ⟨rfl,?_⟩
  repeat (first|exact Below.refl _ _|refine qa ?_ _|refine qo ?_ (by simp;try omega) _)
theorem qd8 (v:Value)(ths:List (List (List Pg.D)))(w:World)(h:ThreadsAt w v ths):ye v ths w:=by
 by_cases hl:ths.length<1∨8<ths.length
 ·exact qg7 v ths w h hl
 obtain⟨h0,vs,hvs,⟨a,c,rfl,hc⟩,hb⟩:=h;unfold ye;unfold maxLen at h0;have hl1:1≤ths.length:=by omega
 have hl8:ths.length≤8:=by omega
 obtain⟨bb,off,rfl,hcc⟩:∃ b off,a=some ⟨b,off,none⟩∧∀ j x,vs[j]?=some x→w.cell? ⟨b,off+j,none⟩=some x:=by
  rcases hc with h|h
  ·rw[h]at hvs;simp at hvs;omega
  ·exact h
 have HC:=Lib.hid hcc;have HB:=Lib.hid hb;have hbs:bb<w.heap.size:=by
  obtain⟨x,hx⟩:∃ x,vs[0]?=some x:=⟨vs[0]'(by omega),List.getElem?_eq_getElem (by omega)⟩
  exact ww (hcc 0 x hx)
 clear hl hc hcc hb hvs;go_enter Tryz.func86,Tryz.ntmps86;go_wp2_with fail;go_loopw [21,4,5,6,7,8,9] (fun ix _ _ _ _ _ _ wr=>∃ t:Nat,ix=.int .i64 t∧t≤ths.length∧Hid (∀ (j:Nat)(z:List (List Pg.D)),j<t→ths[j]?=some z→ly z=none)∧Blk wr w.heap.size #[.int .i64 0,.int .i64 0,.int .i64 0] 35∧Below w.heap.size w wr) (fun ix _ _ _ _ _ _ _=>ths.length-(intOf ix).toNat)
 case atStart=>exact⟨0,rfl,by omega,Lib.hid (fun j z h=>by omega),Blk.new _ _ _,qa (Below.refl _ _) _⟩
 case round =>
  obtain⟨t,rfl,ht,hok,jR,hbr⟩:=hrel;obtain⟨wo,rfl⟩:∃ wo:World,wo=wr:=⟨_,rfl⟩;have cR:=jR.cell;have zR:=jR.free;have sR:=jR.lt;by_cases hlt:t<ths.length
  ·obtain⟨ls,hls⟩:∃ ls,ths[t]?=some ls:=⟨ths[t],List.getElem?_eq_getElem hlt⟩
   obtain⟨u,hu,hbu⟩:=HB.out t ls hls;have qt:=(hbr.cell (p:=⟨bb,off+t,none⟩) hbs).trans (HC.out t u hu);obtain⟨hL0,us,hus,⟨a2,c2,rfl,hc2⟩,hb2⟩:=hbu;unfold maxLen at hL0;have HLS:=Lib.hid hls;have HC2:=Lib.hid hc2;have HB2:=Lib.hid hb2;clear hls hu hc2 hb2;by_cases h6:6<ls.length
   ·have he:=qft hl1 hl8 hok.out HLS.out (show ly ls=some (0,0) by unfold ly;rw[if_pos h6])
    have HE:=Lib.hid he;clear he hus;go_wp2_with fail;refine bodyPost_ret (v:=.tuple #[.int .i64 150,.agg #[.int .i64 t,.int .i64 0,.int .i64 0]]) (by simp[results,Tryz.results86,go_sem,cR]) rfl ?_
    refine⟨by rw[HE.out];rfl,?_⟩
    repeat (first|exact hbr|refine qo ?_ (Nat.le_refl _) _)
   ·go_wp2_with fail
    go_loopw [33,6,7,8,9] (fun ix _ _ _ _ wr=>∃ b:Nat,ix=.int .i64 b∧b≤ls.length∧Hid (∀ (j:Nat)(z:List Pg.D),j<b→ls[j]?=some z→qag z=none)∧Blk wr w.heap.size #[.int .i64 0,.int .i64 0,.int .i64 0] 35∧Below w.heap.size w wr) (fun ix _ _ _ _ _=>ls.length-(intOf ix).toNat)
    case atStart=>exact⟨0,rfl,by omega,Lib.hid (fun j z h=>by omega),jR,hbr⟩
    case round =>
     clear cR zR sR jR hbr;obtain⟨b,rfl,hb,hokb,jR,hbr⟩:=hrel;obtain⟨wo2,rfl⟩:∃ wo2:World,wo2=wr:=⟨_,rfl⟩;have cR:=jR.cell;have zR:=jR.free;have sR:=jR.lt;by_cases hltb:b<ls.length
     ·obtain⟨l,hl⟩:∃ l,ls[b]?=some l:=⟨ls[b],List.getElem?_eq_getElem hltb⟩
      obtain⟨u2,hu2,hbu2⟩:=HB2.out b l hl;obtain⟨bb2,off2,rfl,hcc2⟩:∃ b off,a2=some ⟨b,off,none⟩∧∀ j x,us[j]?=some x→w.cell? ⟨b,off+j,none⟩=some x:=by
       rcases HC2.out with h|h
       ·rw[h]at hus;simp at hus;omega
       ·exact h
      have hq2:=hcc2 b u2 hu2;have q2:=(hbr.cell (p:=⟨bb2,off2+b,none⟩) (ww hq2)).trans hq2;obtain⟨hL2,a3,c3,rfl,hc3⟩:=hbu2;unfold maxLen at hL2;have HL:=Lib.hid hl;have HC3:=Lib.hid hc3;clear hl hu2 hq2 hcc2 hc3;by_cases h12:l.length<1∨12<l.length
      ·have he:=qft hl1 hl8 hok.out HLS.out (tErr_b (by omega) hokb.out HL.out (show qag l=some 0 by unfold qag;rw[if_pos h12]))
       have HE:=Lib.hid he;clear he hus;rcases h12 with h12|h12
       all_goals
        go_wp2_with fail;refine bodyPost_ret (v:=.tuple #[.int .i64 150,.agg #[.int .i64 t,.int .i64 b,.int .i64 0]]) (by simp[results,Tryz.results86,go_sem,cR]) rfl ?_
        refine⟨by rw[HE.out];rfl,?_⟩
        repeat (first|exact hbr|refine qo ?_ (Nat.le_refl _) _)
      ·have hm1:1≤l.length:=by omega
       have hm12:l.length≤12:=by omega
       clear h12;go_wp2_with fail;go_loopw [51,8,9] (fun ix _ _ wr=>∃ n:Nat,ix=.int .i64 n∧n≤l.length∧Hid (∀ (j:Nat)(z:Pg.D),j<n→l[j]?=some z→Pg.right z=true)∧Blk wr w.heap.size #[.int .i64 0,.int .i64 0,.int .i64 0] 35∧Below w.heap.size w wr) (fun ix _ _ _=>l.length-(intOf ix).toNat)
       case atStart=>exact⟨0,rfl,by omega,Lib.hid (fun j z h=>by omega),jR,hbr⟩
       case round =>
        clear cR zR sR jR hbr;obtain⟨n,rfl,hn,hokn,jR,hbr⟩:=hrel;have cR:=jR.cell;have zR:=jR.free;have sR:=jR.lt;by_cases hltn:n<l.length
        ·obtain⟨d,hd⟩:∃ d,l[n]?=some d:=⟨l[n],List.getElem?_eq_getElem hltn⟩
         obtain⟨bb3,off3,rfl,hcc3⟩:∃ b off,a3=some ⟨b,off,none⟩∧∀ j x,(jt l)[j]?=some x→w.cell? ⟨b,off+j,none⟩=some x:=by
          rcases HC3.out with h|h
          ·have:=(qcz l n d hd).1;rw[h]at this;simp at this
          ·exact h
         obtain⟨f0,f1,f2,f3,f4⟩:=qcz l n d hd;have e0:=hcc3 _ _ f0;have hb3:=ww e0;have e0:=(hbr.cell (p:=⟨bb3,off3+n*5,none⟩) hb3).trans e0;have e1:=(hbr.cell (p:=⟨bb3,off3+(n*5+1),none⟩) hb3).trans (hcc3 _ _ f1);have e2:=(hbr.cell (p:=⟨bb3,off3+(n*5+2),none⟩) hb3).trans (hcc3 _ _ f2);have e3:=(hbr.cell (p:=⟨bb3,off3+(n*5+3),none⟩) hb3).trans (hcc3 _ _ f3);have e4:=(hbr.cell (p:=⟨bb3,off3+(n*5+4),none⟩) hb3).trans (hcc3 _ _ f4);simp only[←Nat.add_assoc]at e1 e2 e3 e4;have HD:=Lib.hid hd;clear hd hcc3 f0 f1 f2 f3 f4;go_wp2_with fail;refine (qdy _ _ _ _ _ _).mono ?_
         rintro e w3 ⟨rfl,hb4⟩
         have mR:=(jR.alloc _).below hb4 (jR.alloc _).lt;have nR:=mR.cell;have nz:=mR.free;have ns:=mR.lt;have hbw:=qd (qa hbr _) hb4;clear cR zR sR jR hbr e0 e1 e2 e3 e4
         cases hri:Pg.right ⟨d.k,d.a,d.b,d.i,d.n⟩
         ·have he:=qft hl1 hl8 hok.out HLS.out (tErr_b (by omega) hokb.out HL.out (bErr_n hm1 hm12 hokn.out HD.out hri))
          have HE:=Lib.hid he;clear he hri;go_wp2_with fail;refine bodyPost_ret (v:=.tuple #[.int .i64 150,.agg #[.int .i64 t,.int .i64 b,.int .i64 n]]) (by simp[results,Tryz.results86,go_sem,nR]) rfl ?_
          refine⟨by rw[HE.out];rfl,?_⟩
          repeat (first|exact hbw|refine qo ?_ (Nat.le_refl _) _)
         ·have HRI:=Lib.hid hri
          clear hri;go_wp2_with fail;go_roundw
          case rel =>
           refine⟨n+1,by go_num,by omega,Lib.hid (fun j z hj hz=>?_),mR,hbw⟩
           by_cases e:j=n
           ·subst e
            rw[HD.out]at hz;injection hz with hz;rw[←hz];exact HRI.out
           ·exact hokn.out j z (by omega) hz
          case measure=>simp[intOf];omega
        ·obtain rfl:n=l.length:=by omega
         have he:=qkq hm1 hm12 hokn.out;have HE:=Lib.hid he;clear he;go_wp2_with fail;go_roundw
         case rel =>
          refine⟨b+1,by go_num,by omega,Lib.hid (fun j z hj hz=>?_),jR,hbr⟩
          by_cases e:j=b
          ·subst e
           rw[HL.out]at hz;injection hz with hz;rw[←hz];exact HE.out
          ·exact hokb.out j z (by omega) hz
         case measure=>simp[intOf];omega
     ·obtain rfl:b=ls.length:=by omega
      have he:=qkx (by omega) hokb.out
      have HE:=Lib.hid he;clear he hus;go_wp2_with fail;go_roundw
      case rel =>
       refine⟨t+1,by go_num,by omega,Lib.hid (fun j z hj hz=>?_),jR,hbr⟩
       by_cases e:j=t
       ·subst e
        rw[HLS.out]at hz;injection hz with hz;rw[←hz];exact HE.out
       ·exact hok.out j z (by omega) hz
      case measure=>simp[intOf];omega
  ·obtain rfl:t=ths.length:=by omega
   have he:=qhs hl1 hl8 hok.out;have HE:=Lib.hid he;clear he;go_wp2_with fail;refine bodyPost_ret (v:=.tuple #[.int .i64 0,.agg #[.int .i64 0,.int .i64 0,.int .i64 0]]) (by simp[results,Tryz.results86,go_sem,cR]) rfl ?_
   refine⟨by rw[HE.out];rfl,?_⟩
   repeat (first|exact hbr|refine qo ?_ (Nat.le_refl _) _)
end Go.Proofs.YteehgedabdchcaaGreat
