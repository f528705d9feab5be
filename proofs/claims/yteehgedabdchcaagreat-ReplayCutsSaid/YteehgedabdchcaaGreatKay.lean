import Derived.Test.YteehgedabdchcaaGreatKaq
set_option linter.all false
set_option maxRecDepth 1000000
set_option maxHeartbeats 0
open List renaming mem_or_eq_of_mem_set->Ad
open Go.Proofs.Tryz
namespace Go.Proofs.YteehgedabdchcaaGreat
section
open Hp
structure BD where
 S:An
 v:Int
 e:Int
def D5 (e:Int):Bool:=e==141||e==130||e==100
def BD.fin (r:BD)(i:Nat):BD:=if D5 r.e=true then⟨r.S.abort i,0,r.e⟩ else if r.e=0 then r else⟨r.S,0,r.e⟩
def An.AG (S:An)(i:Nat)(r:BD):BD:=if (S.t i).live=true then r.fin i else⟨S,0,140⟩
def An.CE (S:An)(i p j:Nat):BD:=
 if (S.Ar i p).2≠0 then⟨(S.Ar i p).1,0,(S.Ar i p).2⟩ else⟨(S.Ar i p).1,((S.Ar i p).1.H.Cy p j).1,((S.Ar i p).1.H.Cy p j).2⟩
def An.Dd (S:An)(i p j:Nat):BD:=
 if (S.Ar i p).2≠0 then⟨(S.Ar i p).1,0,(S.Ar i p).2⟩ else⟨(S.Ar i p).1.h ((S.Ar i p).1.H.Bi p j).1,((S.Ar i p).1.H.Bi p j).2.1,((S.Ar i p).1.H.Bi p j).2.2⟩
def An.B5 (S:An)(i p:Nat)(u:Un)(set:Hp->Hp×Nat):BD:=
 if (S.Be i p).2=false then⟨(S.Be i p).1,0,130⟩
 else if ((S.Be i p).1.BW i u).2=false then⟨((S.Be i p).1.BW i u).1,0,130⟩
 else⟨((S.Be i p).1.BW i u).1.h (set ((S.Be i p).1.BW i u).1.H).1,0,(set ((S.Be i p).1.BW i u).1.H).2⟩
def An.BH (S:An)(i p j:Nat)(v:Int):BD:=
 if (S.Ar i p).2≠0 then ⟨(S.Ar i p).1,0,(S.Ar i p).2⟩
 else if ((S.Ar i p).1.H.Cy p j).2≠0 then ⟨(S.Ar i p).1,0,((S.Ar i p).1.H.Cy p j).2⟩
 else (S.Ar i p).1.B5 i p ⟨2,p,j,((S.Ar i p).1.H.Cy p j).1⟩ fun H=>H.BO p j v
def An.C8 (S:An)(i p j q:Nat):BD:=
 if (S.Ar i p).2≠0 then ⟨(S.Ar i p).1,0,(S.Ar i p).2⟩
 else if ((S.Ar i p).1.H.Bi p j).2.2≠0 then ⟨(S.Ar i p).1.h ((S.Ar i p).1.H.Bi p j).1,0,((S.Ar i p).1.H.Bi p j).2.2⟩
 else ((S.Ar i p).1.h ((S.Ar i p).1.H.Bi p j).1).B5 i p ⟨1,p,j,((S.Ar i p).1.H.Bi p j).2.1⟩ fun H=>H.Br p j q
def An.Dr (S:An)(i p j q:Nat):BD:=if q≠0/\lk S.H.cur q=none then⟨S,0,70⟩ else S.C8 i p j q
def An.Cj (S:An)(i p:Nat):BD:=
 if (S.AO i p).2.1≠0 then ⟨(S.AO i p).1,0,(S.AO i p).2.1⟩ else (S.AO i p).1.B5 i p ⟨3,p,0,0⟩ fun H=>H.A1 p true
def An.AR (S:An)(i:Nat)(s:BX):BD:=⟨(S.Bq i s).1,(S.Bq i s).2.1,(S.Bq i s).2.2⟩
def DF:BX:=⟨1,0,true,false⟩
def VN:DF.ok:=⟨by decide,by decide,fun _=>⟨rfl,rfl,rfl⟩⟩
def An.BG (S:An)(i q:Nat):BD:=
 if q=0 then⟨S,0,143⟩ else if lk S.H.cur q=none then⟨S,0,70⟩ else
  if (S.Bq i DF).2.2≠0 then⟨(S.Bq i DF).1,0,(S.Bq i DF).2.2⟩ else⟨(S.Bq i DF).1.h ((S.Bq i DF).1.H.Br (S.Bq i DF).2.1 0 q).1,(S.Bq i DF).2.1,0⟩
def An.CP (S:An)(i q:Nat):BD:=if q=0 then⟨S,0,0⟩ else if um (S.t i).log.keeps q (S.t i).log.mr=true then⟨S.tx i ((S.t i).keep q),q,0⟩ else⟨S.tx i ((S.t i).keep q),0,130⟩
def An.B8 (S:An)(i p:Nat):BD:=
 if (S.AO i p).2.1≠0 then⟨(S.AO i p).1,0,(S.AO i p).2.1⟩ else if (S.AO i p).2.2.Az=false then⟨(S.AO i p).1,0,144⟩ else
  if ((S.AO i p).1.H.Bi p 0).2.2≠0 then⟨(S.AO i p).1.h ((S.AO i p).1.H.Bi p 0).1,0,((S.AO i p).1.H.Bi p 0).2.2⟩
  else ((S.AO i p).1.h ((S.AO i p).1.H.Bi p 0).1).CP i ((S.AO i p).1.H.Bi p 0).2.1
def Tx.B3 (x:Tx)(z:Nat×Nat):Tx:={ x with AP:=x.AP++[z] }
def An.Ca (S:An)(i:Nat):BD:=
 if S.Av≠-1/\S.Av≠(i:Int)\/(S.t i).start<S.version then⟨S,0,141⟩ else match S.queue with
 | []=>⟨{ S with Av:=i },0,0⟩
 | z::l=>if (S.t i).seen<=z.2 then⟨{ S with Av:=i },0,0⟩ else⟨({ S with Av:=i,queue:=l }:An).tx i ((S.t i).B3 z),z.1,0⟩
def Hp.Cf (H:Hp)(zs:List (Nat×Nat))(v:Nat):Hp:=zs.foldl (fun H z=>(H.AJ z.1 (2*v)).1) H
def An.B2 (S:An)(i:Nat):Bool:=(S.t i).log.reads.any fun p=>xz i (S.t i).start (S.H.sec p)
def An.CF (S:An)(i:Nat):An:=
 if S.Av=(i:Int) then { S with now:=S.now+1,H:=S.H.Cf (S.t i).log.holds (S.now+1),Av:=-1,version:=S.now+1 } else { S with now:=S.now+1,H:=S.H.Cf (S.t i).log.holds (S.now+1) }
def An.AY (S:An)(i:Nat):BD:=
 if (S.t i).log.holds=[]/\S.Av≠(i:Int) then⟨S.tx i (S.t i).ended,0,0⟩ else if S.B2 i=true then⟨S,0,141⟩ else⟨(S.CF i).tx i (S.t i).ended,(S.now:Int)+1,0⟩
def Tx.begun (x:Tx)(n s:Nat):Tx:={ x with live:=true,start:=n,seen:=s }
def An.AW (S:An)(i:Nat):An×Int:=
 if (S.t i).live=true then (S,140) else if S.now+(kp S.Au+1)<=S.most then (S.tx i ((S.t i).begun S.now S.next),0) else (S,120)
def An.CO (S:An)(i:Nat):An×Int:=if (S.t i).live=true then (S.abort i,0) else (S,140)
def An.BL {S:An}(hk:S.ok){i:Nat}(hi:i<S.Au.length)(p:Nat):(S.Ar i p).1.ok:=An.Dp hk hi p
def xd (S:An)(i p:Nat):(S.Ar i p).1.Au.length=S.Au.length:=dc S i p
def An.J0 {r:BD}(h:r.S.ok){i:Nat}(hi:i<r.S.Au.length):(r.fin i).S.ok:=by
 unfold BD.fin;split
 ·exact An.DN h hi
 ·split<;>exact h
def qma (r:BD)(i:Nat):(r.fin i).S.Au.length=r.S.Au.length:=by
 unfold BD.fin;split
 ·exact qn2 _ _
 ·split<;>rfl
def An.JZ {S:An}(hk:S.ok){i:Nat}(hi:i<S.Au.length){r:BD}(h:r.S.ok)(hl:r.S.Au.length=S.Au.length):(S.AG i r).S.ok:=by
 unfold An.AG;split
 ·exact An.J0 h (by omega)
 ·exact hk
def qnr (S:An)(i:Nat){r:BD}(hl:r.S.Au.length=S.Au.length):(S.AG i r).S.Au.length=S.Au.length:=by
 unfold An.AG;split
 ·rw[qma];exact hl
 ·rfl
def Good (n:Nat)(r:BD):Prop:=r.S.ok/\r.S.Au.length=n
def Good.Bs {S:An}(hk:S.ok){i:Nat}(hi:i<S.Au.length){r:BD}(h:Good S.Au.length r):Good S.Au.length (S.AG i r):=⟨An.JZ hk hi h.1 h.2,qnr S i h.2⟩
def tu {S:An}(hk:S.ok){i:Nat}(hi:i<S.Au.length)(p j:Nat):Good S.Au.length (S.CE i p j):=by
 unfold An.CE;split<;>exact⟨An.BL hk hi p,xd S i p⟩
def Ur {S:An}(hk:S.ok){i:Nat}(hi:i<S.Au.length)(p j:Nat):Good S.Au.length (S.Dd i p j):=by
 unfold An.Dd;split
 ·exact⟨An.BL hk hi p,xd S i p⟩
 ·exact⟨An.DR (An.BL hk hi p) p j,xd S i p⟩
def U4 {S:An}(hk:S.ok){i:Nat}(hi:i<S.Au.length)(p:Nat){u:Un}{set:Hp->Hp×Nat}(h1:-9223372036854775808<=u.old/\u.old<=9223372036854775807)(h2:u.kind=1->0<=u.old)
  (hs:∀ {T:An},T.ok->(T.h (set T.H).1).ok):Good S.Au.length (S.B5 i p u set):=by
 unfold An.B5;split
 ·exact⟨An.CU hk hi p,ml S i p⟩
 ·have h3:=An.DC (An.CU hk hi p) (by rw[ml];exact hi) u h1 h2
  have h4:=(Lb (S.Be i p).1 i u).trans (ml S i p);split
  ·exact⟨h3,h4⟩
  ·exact⟨hs h3,h4⟩
def An.ok.JY {S:An}(hk:S.ok)(p j:Nat):-9223372036854775808<=(S.H.Cy p j).1/\(S.H.Cy p j).1<=9223372036854775807:=by
 unfold Hp.Cy;split
 ·simp
 ·rename_i ob hp
  split
  ·simp
  ·rename_i n hn;exact (hk.H.EZ hp).num n (Qe hn)
def qmy {H:Hp}(h:H.wf)(p j:Nat):(H.Bi p j).2.1<=131072:=by
 unfold Hp.Bi;split
 ·simp
 ·rename_i ob hp
  split
  ·simp
  ·rename_i x hx
   have hxb:=(h.EZ hp).ptr x (Qe hx);split
   ·exact TJ h.ok hxb
   ·exact hxb
def df {S:An}(hk:S.ok){i:Nat}(hi:i<S.Au.length)(p j:Nat){v:Int}(hv:-9223372036854775808<=v/\v<=9223372036854775807):Good S.Au.length (S.BH i p j v):=by
 have hf:=An.BL hk hi p;have hl:=xd S i p;unfold An.BH;split
 ·exact⟨hf,hl⟩
 ·split
  ·exact⟨hf,hl⟩
  ·rw[<-hl]
   exact U4 hf (by rw[hl];exact hi) p (hf.JY p j) (fun h=>by simp at h) fun hT=>An.Eg hT p j hv
def qk6 {S:An}(hk:S.ok){i:Nat}(hi:i<S.Au.length)(p j q:Nat):Good S.Au.length (S.C8 i p j q):=by
 have hf:=An.BL hk hi p;have hl:=xd S i p;have hb:=qmy hf.H p j;have hp:=An.DR hf p j;unfold An.C8;split
 ·exact⟨hf,hl⟩
 ·split
  ·exact⟨hp,hl⟩
  ·rw[<-hl]
   exact U4 (S:=(S.Ar i p).1.h ((S.Ar i p).1.H.Bi p j).1) hp (by show i<(S.Ar i p).1.Au.length;rw[hl];exact hi) p (by simp only;omega) (fun _=>by simp only;omega) fun hT=>An.Dx hT p j q
def Uo {S:An}(hk:S.ok){i:Nat}(hi:i<S.Au.length)(p j q:Nat):Good S.Au.length (S.Dr i p j q):=by
 unfold An.Dr;split
 ·exact⟨hk,rfl⟩
 ·exact qk6 hk hi p j q
def sy {S:An}(hk:S.ok){i:Nat}(hi:i<S.Au.length)(p:Nat):Good S.Au.length (S.Cj i p):=by
 have hf:=An.Dp hk hi p;have hl:=dc S i p;unfold An.Cj;split
 ·exact⟨hf,hl⟩
 ·rw[<-hl]
  exact U4 hf (by rw[hl];exact hi) p (by simp) (fun h=>by simp at h) fun hT=>An.Cv hT p true
def pc {S:An}(hk:S.ok){i:Nat}(hi:i<S.Au.length){s:BX}(hs:s.ok):Good S.Au.length (S.AR i s):=⟨An.Eo hk hi hs,qmp S i s⟩
def tq {S:An}(hk:S.ok){i:Nat}(hi:i<S.Au.length)(q:Nat):Good S.Au.length (S.BG i q):=by
 unfold An.BG;have h1:=An.Eo hk hi VN;have h2:=qmp S i DF;split
 ·exact⟨hk,rfl⟩
 ·split
  ·exact⟨hk,rfl⟩
  ·split
   ·exact⟨h1,h2⟩
   ·exact⟨An.Dx h1 _ _ _,h2⟩
def qj9 {S:An}(hk:S.ok){i:Nat}(hi:i<S.Au.length)(q:Nat):Good S.Au.length (S.CP i q):=by
 have h1:=An.MQ hk hi q;have h2:=An.Cq S i ((S.t i).keep q);unfold An.CP;split
 ·exact⟨hk,rfl⟩
 ·split<;>exact⟨h1,h2⟩
def lf {S:An}(hk:S.ok){i:Nat}(hi:i<S.Au.length)(p:Nat):Good S.Au.length (S.B8 i p):=by
 have hf:=An.Dp hk hi p;have hl:=dc S i p;have hp:=An.DR hf p 0;unfold An.B8;split
 ·exact⟨hf,hl⟩
 ·split
  ·exact⟨hf,hl⟩
  ·split
   ·exact⟨hp,hl⟩
   ·rw[<-hl]
    exact qj9 (S:=(S.AO i p).1.h ((S.AO i p).1.H.Bi p 0).1) hp (by show i<(S.AO i p).1.Au.length;rw[hl];exact hi) _
def An.E2 {S:An}(h:S.ok){z:Int}{v:Nat}(hz:-1<=z/\z<=8)(hv:v<=S.now):An.ok { S with Av:=z,version:=v }:=
 ⟨h.H,h.n2,h.lv,h.t1,h.t8,h.lg,h.st,hv,hz,h.sc,h.so,h.qu,h.nx,h.cm,h.se,h.ph⟩
def r7 {S:An}(hk:S.ok){i:Nat}(hi:i<S.Au.length):Good S.Au.length (S.Ca i):=by
 have h8:=hk.t8;unfold An.Ca;split
 ·exact⟨hk,rfl⟩
 ·split
  ·exact⟨An.E2 hk (by omega) hk.ve,rfl⟩
  ·rename_i z l hq
   split
   ·exact⟨An.E2 hk (by omega) hk.ve,rfl⟩
   ·have h1:An.ok { S with Av:=i }:=An.E2 hk (by omega) hk.ve
    have hx:=An.AV hi;have hlv:=yy S.Au i ((S.t i).B3 z) _ hx;have htk:=yx S.Au i ((S.t i).B3 z) _ hx;have hmem:∀ y ∈ S.Au.set i ((S.t i).B3 z),y ∈ S.Au\/y=(S.t i).B3 z:=fun z hz=>Ad hz;have e1:((S.t i).B3 z).AP.length=(S.t i).AP.length+1:=by simp[Tx.B3]
    have e2:((S.t i).B3 z).live=(S.t i).live:=rfl;rw[e1]at htk;rw[e2]at hlv;have lU:=Nat.add_right_cancel hlv;have hqu:=hk.qu;rw[hq,Qv]at hqu;refine⟨⟨hk.H,hk.n2,by show S.now+kp (S.Au.set i _)<=S.most;rw[lU];exact hk.lv,by simpa [An.tx] using hk.t1,by simpa [An.tx] using hk.t8,fun z hz=>?_,fun z hz=>?_,hk.ve,h1.ho,hk.sc,hk.so,by show l.length+wg (S.Au.set i _)<=S.next;omega,hk.nx,hk.cm,fun z hz=>?_,hk.ph⟩,by simp[An.tx]⟩
    ·rcases hmem z hz with h|rfl
     ·exact hk.lg z h
     ·exact hk.Ee hi
    ·rcases hmem z hz with h|rfl
     ·exact hk.st z h
     ·exact hk.VZ hi
    ·rcases hmem z hz with h|rfl
     ·exact hk.se z h
     ·exact hk.set hi
def An.En:∀ (zs:List (Nat×Nat)){S:An}{v:Nat},S.ok->v<=1099511627776->(S.h (S.H.Cf zs v)).ok
 | [],_,_,hk,_=>hk
 | z::zs,S,v,hk,hv=>An.En zs (S:=S.h (S.H.AJ z.1 (2*v)).1) (An.Fh hk z.1 hv) hv
def qpn (H:Hp)(zs:List (Nat×Nat))(z:Nat×Nat)(v:Nat):H.Cf (zs++[z]) v=((H.Cf zs v).AJ z.1 (2*v)).1:=by unfold Hp.Cf;rw[List.foldl_append];rfl
def UW:∀ (l:List Tx)(i:Nat)(x:Tx),l[i]?=some x->x.live=true->1<=kp l
 | [],i,x,h,_=>by simp at h
 | q::l,0,x,h,hl=>by simp at h;subst h;rw[kz,if_pos hl];omega
 | q::l,i+1,x,h,hl=>by have:=UW l i x (by simpa using h) hl;rw[kz];omega
def An.Fj {S:An} (hk:S.ok) {i:Nat} (hi:i<S.Au.length) (hl:(S.t i).live=true) {z:Int} {v:Nat} (hz:-1<=z/\z<=8) (hv:v<=S.now+1) :
  An.ok (({ S with now:=S.now+1,H:=S.H.Cf (S.t i).log.holds (S.now+1),Av:=z,version:=v }:An).tx i (S.t i).ended):=by
 have h1:=UW S.Au i _ (An.AV hi) hl;have h2:=hk.lv;have h3:=hk.n2;have hc:=An.En (S.t i).log.holds hk (v:=S.now+1) (by omega)
 have he:=An.Dm hc (i:=i) hi (q:=S.queue) (z:=z) (v:=S.version) (by show S.queue.length<=S.queue.length+_;omega) hz hk.ve
 have hls:=yy S.Au i (S.t i).ended _ (An.AV hi);rw[hl]at hls;have e0:(S.t i).ended.live=false:=rfl;rw[e0]at hls;simp only[if_true,Bool.false_eq_true,if_false]at hls;exact⟨he.H,he.n2,by show S.now+1+kp (S.Au.set i (S.t i).ended)<=S.most;omega,he.t1,he.t8,he.lg,fun x hx=>Qu (he.st x hx),hv,hz,he.sc,he.so,he.qu,he.nx,he.cm,he.se,he.ph⟩
def Wv {S:An} (hk:S.ok) {i:Nat} (hi:i<S.Au.length) (hl:(S.t i).live=true):Good S.Au.length (S.AY i):=by
 unfold An.AY;split
 ·exact⟨An.Dm hk hi (q:=S.queue) (z:=S.Av) (v:=S.version) (by omega) hk.ho hk.ve,by simp[An.tx]⟩
 ·split
  ·exact⟨hk,rfl⟩
  ·unfold An.CF
   split
   ·exact⟨An.Fj hk hi hl (z:=-1) (v:=S.now+1) (by omega) (Qk _),by simp[An.tx]⟩
   ·exact⟨An.Fj hk hi hl (z:=S.Av) (v:=S.version) hk.ho (by have:=hk.ve;omega),by simp[An.tx]⟩
def YA {S:An}(hk:S.ok){i:Nat}(hi:i<S.Au.length):(S.AW i).1.ok:=by
 unfold An.AW;split
 ·exact hk
 ·rename_i hl
  split
  ·rename_i hm
   have hx:=An.AV hi;have hlv:=yy S.Au i ((S.t i).begun S.now S.next) _ hx;have htk:=yx S.Au i ((S.t i).begun S.now S.next) _ hx;have hmem:∀ y ∈ S.Au.set i ((S.t i).begun S.now S.next),y ∈ S.Au\/y=(S.t i).begun S.now S.next:=fun z hz=>Ad hz;have e1:((S.t i).begun S.now S.next).AP.length=(S.t i).AP.length:=rfl;have e2:((S.t i).begun S.now S.next).live=true:=rfl;rw[e1]at htk;rw[e2,if_neg hl,if_pos rfl]at hlv;refine⟨hk.H,hk.n2,by show S.now+kp (S.Au.set i _)<=S.most;omega,by simpa [An.tx] using hk.t1,by simpa [An.tx] using hk.t8,fun z hz=>?_,fun z hz=>?_,hk.ve,hk.ho,hk.sc,hk.so,by show S.queue.length+wg (S.Au.set i _)<=S.next;have:=hk.qu;omega,hk.nx,hk.cm,fun z hz=>?_,hk.ph⟩
   ·rcases hmem z hz with h|rfl
    ·exact hk.lg z h
    ·exact hk.Ee hi
   ·rcases hmem z hz with h|rfl
    ·exact hk.st z h
    ·exact Qk _
   ·rcases hmem z hz with h|rfl
    ·exact hk.se z h
    ·exact Qk _
  ·exact hk
def ql0 (S:An)(i:Nat):(S.AW i).1.Au.length=S.Au.length:=by
 unfold An.AW;split
 ·rfl
 ·split
  ·exact An.Cq _ _ _
  ·rfl
def qoe {S:An}(hk:S.ok){i:Nat}(hi:i<S.Au.length):(S.CO i).1.ok:=by
 unfold An.CO;split
 ·exact An.DN hk hi
 ·exact hk
end
section
open Go.RowKit Hp
attribute [local go_sem ↓] Go.wp_at_zero Go.wp_at_succ
section
variable {w w' : World} {o o' : Own} {l : A7} {cy n : Nat} {rd ls : List Nat}
def LF {H:Hp}(h:Bp w o l H)(hw:H.wf) :
  Calls Tryz.prog 129 #[ptr l.h] w fun e w'=>e=.returned (.bool H.Ba.2)/\∃ o',Bp w' o' l H.Ba.1/\Stp (zu l) o o' w w':=by
 obtain⟨vc,vo,vw,vf,f,hh⟩:=h;refine (KC hh hw).mono ?_
 rintro e w'⟨rfl,bM,f',o',h',hs⟩
 exact⟨rfl,o',⟨bM,vo,vw,vf,f',h'⟩,hs⟩
def qli {H:Hp}(h:H.Ba.2=false):H.Ba.1=H:=by
 unfold Hp.Ba at h ⊢;by_cases hc:H.AD=false\/H.scan=H.top
 ·rw[if_pos hc]
 ·rw[if_neg hc]at h ⊢
  cases hl:lk H.cur H.scan with
  | none=>rfl
  | some ob =>
   rw[hl]at h;simp only at h;split at h<;>simp at h
def uu (H:Hp)(n:Nat)(rd ls:List Nat):Hp×Nat×List Nat×List Nat×Bool:=
 if n=0 then (H,0,rd,ls,false) else if H.Ba.2=true then (H.Ba.1,n,rd,ls,false)
 else if n=1 then (H.A8.1,2,rd++H.A8.2,ls,false) else (H.drop.1,0,rd,ls++H.drop.2.1,true)
def qlx (h:CX w o l cy 0 rd ls) :
  Calls Tryz.prog 67 #[ptr cy] w fun e w'=>e=.returned (.bool false)/\Below w.1.size w w':=by
 have HL:=Qa (p9 h (by omega))
 clear h;go_enter func67,ntmps67;go_wp2_with fail;refine HL.out.mono ?_
 rintro e w1⟨rfl,rfl⟩
 go_wp2_with fail;go_ret;exact⟨rfl,qd _⟩
def GL {H:Hp}(hH:Bp w o l H)(hw:H.wf)(h:CX w o l cy n rd ls)(hn:n=1\/n=2)(h1:rd.length<=1099511627776)(h2:H.A8.2.length<=1099511627776)(h3:ls.length<=1099511627776)(h4:H.drop.2.1.length<=1099511627776) :
  Calls Tryz.prog 67 #[ptr cy] w fun e w'=>e=.returned (.bool (uu H n rd ls).2.2.2.2)/\∃ o',Bp w' o' l (uu H n rd ls).1/\CX w' o' l cy (uu H n rd ls).2.1 (uu H n rd ls).2.2.1 (uu H n rd ls).2.2.2.1/\Stp (EV l) o o' w w':=by
 have n7:¬zu l (l.id,7):=fun hh=>by have:=hh.2;simp at this
 have n8:¬zu l (l.id,8):=fun hh=>by have:=hh.2;simp at this
 have n9:¬zu l (l.id,9):=fun hh=>by have:=hh.2;simp at this
 have HL:=Qa (p9 h (by omega))
 have HS:=Qa (LF hH hw);have HC:=Qa (fun (w5:World)(o5:Own)(hs:Stp (zu l) o o5 w w5)=>h.Ao hs n7 n8 n9)
 obtain⟨vr,vl,jc,_,_⟩:=h.AM;have c:=jc.cell
 cases hb:H.Ba.2 with
 | true =>
  have e1:uu H n rd ls=(H.Ba.1,n,rd,ls,false):=by unfold uu;rw[if_neg (by omega),if_pos hb]
  rw[e1];rw[hb]at HS;generalize H.Ba.1=H' at *;clear hH hw h h1 h2 h3 h4 e1 hb;rcases hn with rfl|rfl
  all_goals
   go_enter func67,ntmps67;go_wp2_with fail;refine HL.out.mono ?_;rintro e w1 ⟨rfl,rfl⟩;go_wp2_with fail;refine HS.out.mono ?_;rintro e w2 ⟨rfl,o2,hH2,hs2⟩;go_wp2_with fail;go_ret;exact⟨rfl,o2,hH2,HC.out _ _ hs2,hs2.mono fun _ h=>nr h⟩
 | false =>
  have e0:=qli hb;rw[hb,e0]at HS;rcases hn with rfl|rfl
  ·have e1:uu H 1 rd ls=(H.A8.1,2,rd++H.A8.2,ls,false):=by unfold uu;rw[if_neg (by omega),if_neg (by rw[hb];simp),if_pos rfl]
   rw[e1];have HF:=Qa (fun w2 o2 (h2':Bp w2 o2 l H)(hc2:CX w2 o2 l cy 1 rd ls)=>qj8 h2' hw hc2 h1 h2);generalize H.A8=D at *;clear hH hw h h1 h2 h3 h4 e1 hb e0;go_enter func67,ntmps67;go_wp2_with fail;refine HL.out.mono ?_;rintro e w1 ⟨rfl,rfl⟩;go_wp2_with fail;refine HS.out.mono ?_;rintro e w2 ⟨rfl,o2,hH2,hs2⟩;have hc2:=HC.out _ _ hs2;have wO:=Qa (HF.out _ _ hH2 hc2);obtain⟨vr2,vl2,jc2,_,_⟩:=hc2.AM;have c2:w2.cell? ⟨cy,1,none⟩=some (.func (.func 126) #[ptr cy] #[]):=jc2.cell 1;clear c;go_wp2_with fail;refine wO.out.mono ?_;rintro e w3 ⟨rfl,o3,hH3,hc3,hs3⟩;go_wp2_with fail;go_ret;exact⟨rfl,o3,hH3,hc3,(hs2.mono fun _ h=>nr h).trans hs3⟩
  ·have e1:uu H 2 rd ls=(H.drop.1,0,rd,ls++H.drop.2.1,true):=by unfold uu;rw[if_neg (by omega),if_neg (by rw[hb];simp),if_neg (by omega)]
   rw[e1];have HF:=Qa (fun w2 o2 (h2':Bp w2 o2 l H)(hc2:CX w2 o2 l cy 2 rd ls)=>qic h2' hw hc2 h3 h4);generalize H.drop=D at *;clear hH hw h h1 h2 h3 h4 e1 hb e0;go_enter func67,ntmps67;go_wp2_with fail;refine HL.out.mono ?_;rintro e w1 ⟨rfl,rfl⟩;go_wp2_with fail;refine HS.out.mono ?_;rintro e w2 ⟨rfl,o2,hH2,hs2⟩;have hc2:=HC.out _ _ hs2;have wO:=Qa (HF.out _ _ hH2 hc2);obtain⟨vr2,vl2,jc2,_,_⟩:=hc2.AM;have c2:w2.cell? ⟨cy,1,none⟩=some (.func (.func 190) #[ptr cy] #[]):=jc2.cell 1;clear c;go_wp2_with fail;refine wO.out.mono ?_;rintro e w3 ⟨rfl,o3,hH3,hc3,hs3⟩;go_wp2_with fail;go_ret;exact⟨rfl,o3,hH3,hc3,(hs2.mono fun _ h=>nr h).trans hs3⟩
