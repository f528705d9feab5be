import Derived.Test.YteehgedabdchcaaGreatKar
import Derived.Test.YteehgedabdchcaaGreatKbe
import Derived.Test.YteehgedabdchcaaGreatKbv
set_option linter.all false
set_option maxRecDepth 1000000
set_option maxHeartbeats 0
open Go renaming World->Aa,Calls->Ab,Value->Ac
open Go.RowKit renaming Below->Ae
open Go.Value renaming int->I,slice->Ah,tuple->Aj,agg->Ak
open Go.IntKind renaming i64->Z
open Go.Ending renaming returned->O
open List renaming drop_eq_getElem_cons->Ad,append_nil->Ai,length_drop->aa,append_assoc->af,take_length->ag,nil_append->ai,drop_eq_nil_of_le->aj,set_append_right->ay,set_cons_zero->az,getElem?_drop->aA,take_add_one->aB,headD_cons->aC,tail_cons->aD
open Go.Proofs.Tryz
open Go.Proofs.Tryz renaming prog->ARt
namespace Go.Proofs.YteehgedabdchcaaGreat
open Go.RowKit Hp
attribute [local go_sem ↓] Go.wp_at_zero Go.wp_at_succ
def L2 (h:AE)(v e:Int)(hn:0<=h.n/\h.n<=4096)(hb:0<=h.b/\h.b<=4096)(w:Aa) :
  Ab ARt 214 #[h.v,I Z v,I Z e] w fun e' w'=>e'=O (Aj #[(h.ended e).v,(ws v e).val])/\Ae w.1.size w w':=by
 obtain⟨b,n,⟨a0,a1,a2,a3,a4,a5⟩,⟨s0,s1,s2,s3,s4,s5⟩,hl⟩:=h;obtain⟨n1,n2⟩:=hn;obtain⟨b1,b2⟩:=hb;simp only at n1 n2 b1 b2;by_cases e0:e=0
 ·subst e0
  have er:AE.ended ⟨b,n,⟨a0,a1,a2,a3,a4,a5⟩,⟨s0,s1,s2,s3,s4,s5⟩,hl⟩ 0=⟨b,n+1,⟨a0,a1,a2,a3,a4,a5⟩,⟨s0,s1,s2,s3,s4,s5⟩,hl⟩:=by unfold AE.ended;rfl
  have ea:ws v 0=⟨2,0,v⟩:=rfl;rw[er,ea];exact Hb b n a0 a1 a2 a3 a4 a5 s0 s1 s2 s3 s4 s5 hl v w n1 n2
 have ea:ws v e=⟨2,e,0⟩:=by unfold ws;rw[if_neg e0]
 have f0:(e==0)=false:=by rw[Qh];exact e0
 rw[ea];by_cases e1:e=141
 ·have er:AE.ended ⟨b,n,⟨a0,a1,a2,a3,a4,a5⟩,⟨s0,s1,s2,s3,s4,s5⟩,hl⟩ e=⟨b,0,⟨s0,s1,s2,s3,s4,s5⟩,⟨s0,s1,s2,s3,s4,s5⟩,false⟩:=by unfold AE.ended;rw[if_pos (.inl e1)];rfl
  rw[er];exact qhs b n a0 a1 a2 a3 a4 a5 s0 s1 s2 s3 s4 s5 hl v e w f0 (.inl (by rw[beq_iff_eq];exact e1))
 have f1:(e==141)=false:=by rw[Qh];exact e1
 by_cases e2:e=140
 ·have er:AE.ended ⟨b,n,⟨a0,a1,a2,a3,a4,a5⟩,⟨s0,s1,s2,s3,s4,s5⟩,hl⟩ e=⟨b,0,⟨s0,s1,s2,s3,s4,s5⟩,⟨s0,s1,s2,s3,s4,s5⟩,false⟩:=by unfold AE.ended;rw[if_pos (.inr e2)];rfl
  rw[er];exact qhs b n a0 a1 a2 a3 a4 a5 s0 s1 s2 s3 s4 s5 hl v e w f0 (.inr ⟨f1,by rw[beq_iff_eq];exact e2⟩)
 have f2:(e==140)=false:=by rw[Qh];exact e2
 have e12:¬(e=141\/e=140):=fun h=>h.elim e1 e2
 by_cases e3:e=100
 ·have er:AE.ended ⟨b,n,⟨a0,a1,a2,a3,a4,a5⟩,⟨s0,s1,s2,s3,s4,s5⟩,hl⟩ e=⟨b+1,0,⟨s0,s1,s2,s3,s4,s5⟩,⟨s0,s1,s2,s3,s4,s5⟩,false⟩:=by unfold AE.ended;rw[if_neg e12,if_pos (.inl e3)];rfl
  rw[er];exact qiw b n a0 a1 a2 a3 a4 a5 s0 s1 s2 s3 s4 s5 hl v e w b1 b2 f0 f1 f2 (.inl (by rw[beq_iff_eq];exact e3))
 have f3:(e==100)=false:=by rw[Qh];exact e3
 by_cases e4:e=130
 ·have er:AE.ended ⟨b,n,⟨a0,a1,a2,a3,a4,a5⟩,⟨s0,s1,s2,s3,s4,s5⟩,hl⟩ e=⟨b+1,0,⟨s0,s1,s2,s3,s4,s5⟩,⟨s0,s1,s2,s3,s4,s5⟩,false⟩:=by unfold AE.ended;rw[if_neg e12,if_pos (.inr e4)];rfl
  rw[er];exact qiw b n a0 a1 a2 a3 a4 a5 s0 s1 s2 s3 s4 s5 hl v e w b1 b2 f0 f1 f2 (.inr ⟨f3,by rw[beq_iff_eq];exact e4⟩)
 have f4:(e==130)=false:=by rw[Qh];exact e4
 have er:AE.ended ⟨b,n,⟨a0,a1,a2,a3,a4,a5⟩,⟨s0,s1,s2,s3,s4,s5⟩,hl⟩ e=⟨b,n+1,⟨a0,a1,a2,a3,a4,a5⟩,⟨s0,s1,s2,s3,s4,s5⟩,hl⟩:=by unfold AE.ended;rw[if_neg e12,if_neg (fun h=>h.elim e3 e4)]
 rw[er];exact qoq b n a0 a1 a2 a3 a4 a5 s0 s1 s2 s3 s4 s5 hl v e w n1 n2 f0 f1 f2 f3 f4
def mn (h:AE) (v e:Int) (hn:0<=h.n/\h.n<=4096) (hb:0<=h.b/\h.b<=4096) (w:Aa) {b7:Nat} (j7:Al w b7 h.cells 58) :
  Ab ARt 213 #[I Z v,I Z e,ptr b7] w fun e' w'=>e'=O (Aj #[(h.ended e).v,(ws v e).val])/\Ae w.1.size w w':=by
 have HE:=Qa (fun w=>L2 h v e hn hb w)
 generalize h.ended e=h' at *;generalize ws v e=a' at *;clear hn hb;obtain⟨b,n,⟨a0,a1,a2,a3,a4,a5⟩,⟨s0,s1,s2,s3,s4,s5⟩,hl⟩:=h;obtain⟨b',n',⟨r0,r1,r2,r3,r4,r5⟩,⟨p0,p1,p2,p3,p4,p5⟩,hl'⟩:=h';obtain⟨ak,ae,av⟩:=a';have c7:=j7.cell;unfold AE.cells at c7;have l7:=j7.lt;have HE:=Qa (fun w=>show Ab ARt 214 #[Ak #[I Z b,I Z n,I Z a0,I Z a1,I Z a2,I Z a3,I Z a4,I Z a5,I Z s0,I Z s1,I Z s2,I Z s3,I Z s4,I Z s5,.bool hl],I Z v,I Z e] w fun e' w'=>e'=O (Aj #[Ak #[I Z b',I Z n',I Z r0,I Z r1,I Z r2,I Z r3,I Z r4,I Z r5,I Z p0,I Z p1,I Z p2,I Z p3,I Z p4,I Z p5,.bool hl'],Ak #[I Z ak,I Z ae,I Z av]])/\Ae w.1.size w w' from HE.out w)
 clear j7;go_enter func213,ntmps213;go_wp2_with fail;refine (HE.out _).mono ?_
 rintro e1 w1 ⟨rfl,hb1⟩
 have j5:=(Al.Ap w (AE.cells ⟨0,0,⟨0,0,0,0,0,0⟩,⟨0,0,0,0,0,0⟩,false⟩) _ 58 w.1.size rfl rfl).alloc (.cells #[I Z 0,I Z 0,I Z 0] 54);have j6:Al _ (w.1.size+1) EN 54:=Al.Ap (w.alloc (.cells (AE.cells ⟨0,0,⟨0,0,0,0,0,0⟩,⟨0,0,0,0,0,0⟩,false⟩) 58)) #[I Z 0,I Z 0,I Z 0] EN 54 (w.1.size+1) (by simp) rfl
 replace j5:=j5.below hb1 j5.lt;replace j6:=j6.below hb1 j6.lt;have hb2:=qe (qc (qc (qd w) _) _) hb1;have c5:=j5.cell;unfold AE.cells at c5;have z5:=j5.free;have l5:=j5.lt;have c6:=j6.cell;unfold EN at c6;have z6:=j6.free;have l6:=j6.lt;have hres:=Qa (jt j5 j6 (by omega) ⟨b',n',⟨r0,r1,r2,r3,r4,r5⟩,⟨p0,p1,p2,p3,p4,p5⟩,hl'⟩ ⟨ak,ae,av⟩)
 have hrb:=Qa (xy hb2 (b6:=w.1.size) (b7:=w.1.size+1) (by omega) (by omega) ⟨b',n',⟨r0,r1,r2,r3,r4,r5⟩,⟨p0,p1,p2,p3,p4,p5⟩,hl'⟩ ⟨ak,ae,av⟩)
 clear hb1 hb2 j5 j6 c7 l7 HE;go_wp2_with fail;change bodyPost _ _ _ _ _ (jy w1 (w.1.size) (w.1.size+1) ⟨b',n',⟨r0,r1,r2,r3,r4,r5⟩,⟨p0,p1,p2,p3,p4,p5⟩,hl'⟩ ⟨ak,ae,av⟩);generalize jy w1 (w.1.size) (w.1.size+1) ⟨b',n',⟨r0,r1,r2,r3,r4,r5⟩,⟨p0,p1,p2,p3,p4,p5⟩,hl'⟩ ⟨ak,ae,av⟩=X at *;exact bodyPost_ret (ze _ _ 5 6 rfl rfl rfl hres.out.1 hres.out.2) rfl ⟨rfl,hrb.out⟩
def Kg (q:List (Nat×Nat))(ps:List Nat)(k:Nat):List Nat:=ps.take k++(q.map (·.1)).drop k
def YP:∀ q:List (Nat×Nat),vi q (q.map (·.1))=q
 | []=>rfl
 | z::q=>by simp only[List.map_cons,vi,aC,aD,YP q]
def YH:∀ (q:List (Nat×Nat))(ps:List Nat),q.length<=ps.length->vi q (ps.take q.length)=vi q ps
 | [],_,_=>rfl
 | z::q,[],h=>by simp at h
 | z::q,p::ps,h=>by simp only[Qv,List.take_succ_cons,vi,aC,aD,YH q ps (by simpa using h)]
def qmv {q:List (Nat×Nat)}{ps:List Nat}(h:q.length<=ps.length){k:Nat}(hk:k<=q.length):(Kg q ps k).length=q.length:=by
 simp only[Kg,Qd,Qp,aa,Qg];omega
def MZ {q:List (Nat×Nat)}{ps:List Nat}(_h:q.length<=ps.length){k x:Nat}(hk:k<q.length)(hx:ps[k]?=some x):(Kg q ps k).set k x=Kg q ps (k+1):=by
 obtain⟨hkp,hxe⟩:=Qc.1 hx;have e1:(ps.take k).length=k:=by rw[Qp];omega
 have e2:(q.map (·.1)).drop k=(q.map (·.1))[k]'(by simpa using hk)::(q.map (·.1)).drop (k+1):=Ad (by simpa using hk)
 unfold Kg;rw[ay _ _ (by omega),e1,Nat.sub_self,e2,az,List.take_succ_eq_append_getElem hkp,hxe,af]
 rfl
section
variable {w : Aa} {o : Own} {t : Tag}
def YO {q:List (Nat×Nat)}{ps:List Nat}{v:Ac}(hr:Row w o t 117 2 v q.length (qk q))(hl:q.length<=ps.length)(hq:q.length<=1099511627776){g off c:Nat}(hc:ps.length<=c)
  (hg:∀ (j x:Nat),ps[j]?=some x->w.cell? ⟨g,off+j,none⟩=some (nv x))(hlt:g<w.1.size)(ng:o g≠t) :
  Ab ARt 64 #[v,Ah (some ⟨g,off,none⟩) ps.length c] w fun e w'=>e=O (.slice (if c=q.length then some ⟨g,off,none⟩ else some ⟨g,off+q.length,none⟩) (ps.length-q.length) (c-q.length)) /\
   Row w' o t 117 2 v q.length (qk (vi q ps))/\Stp (fun u=>u=t) o o w w':=by
 obtain⟨pa,cp,rfl⟩:=hr.AS;have HR:=Qa hr;have HL:=Qa hl;have HQ:=Qa hq;have HG:=Qa (fun w2 (hs:Stp (fun u=>u=t) o o w w2)(j x:Nat)(hx:ps[j]?=some x)=>show w2.cell? ⟨g,off+j,none⟩=some (nv x) from by
  have:=hs.block g hlt (fun h=>ng h);rw[<-hg j x hx];simp only[World.cell?,this])
 obtain⟨n,hn⟩:=Ja0 q.length;obtain⟨m,hm⟩:=Ja0 ps.length;have HN:=Qa hn;have HM:=Qa hm;rw[<-hn]at HR HL HQ ⊢;rw[<-hm]at HL hc ⊢;have i1:(n:Int)<=(m:Int):=by have:=HL.out;omega
 have i2:(m:Int)<=(c:Int):=by omega
 have i3:(0:Int)<=(n:Int):=by omega
 clear hr hl hq hg hn hm;go_enter func64,ntmps64;go_wp2_with fail;go_loopw [5,8] (fun _ ix wr=>∃ k:Nat,ix=I Z k/\k<=n/\Row wr o t 117 2 (.slice pa n cp) n (qk (vi q (Kg q ps k)))/\Stp (fun u=>u=t) o o w wr) (fun _ ix _=>n-(intOf ix).toNat)
 case atStart=>exact⟨0,rfl,Nat.zero_le _,by rw[show Kg q ps 0=q.map (·.1) from rfl,YP];exact HR.out,Stp.refl _ _ _⟩
 case round =>
  obtain⟨k,rfl,hkn,iq,hs⟩:=hrel;by_cases hlt':k<n
  ·have gT:(k:Int)<(n:Int):=by omega
   have hkM:(k:Int)<(m:Int):=by omega
   obtain⟨hw1,hw2⟩:=mf k n hlt' HQ.out;obtain⟨x,hx⟩:∃ x,ps[k]?=some x:=⟨_,Qb (by rw[<-HM.out];have:=HL.out;omega)⟩
   have q0:wr.cell? ⟨g,off+k,none⟩=some (I Z x):=HG.out _ hs k x hx;have BF:=UZ q (Kg q ps k) k x (by rw[<-HN.out];exact hlt') (by rw[qmv (by rw[<-HN.out,<-HM.out];exact HL.out) (by rw[<-HN.out];omega)];exact Qk _)
   rw[MZ (by rw[<-HN.out,<-HM.out];exact HL.out) (by rw[<-HN.out];exact hlt') hx]at BF
   have hkl:(Kg q ps k)[k]?≠none:=by
    rw[ne_eq,List.getElem?_eq_none_iff,qmv (by rw[<-HN.out,<-HM.out];exact HL.out) (by rw[<-HN.out];omega),<-HN.out];omega
   obtain⟨u,hu⟩:=Option.ne_none_iff_exists'.1 hkl;rcases iq.B7 with ⟨_,h0⟩|⟨g2,cap,e,hcap⟩
   ·have h2:=BF.2
    rw[h0,hu]at h2;simp at h2
   ·injection e with e1 _ e3
    subst e1 e3;have hp2:=iq.Ct (k*2) (I Z x);rw[show (Value.int .i64 (x:Int))=nv x from rfl,<-BF.1]at hp2;have z2:=iq.free (k*2);have hog:=iq.CZ;have hb2:=iq.blt;have q2:∃ u,wr.cell? ⟨g2,k*2,none⟩=some u:=by
     have h3:=iq.own.cells (g:=g2) rfl (k*2) (nv u) (by rw[BF.2,hu];rfl)
     simp only[Addr.add_lit,Nat.zero_add]at h3;exact⟨_,h3⟩
    obtain⟨u,q2⟩:=q2;have HP:=Qa hp2;have HS2:=Qa (hs.setCell (a:=⟨g2,k*2,none⟩) (by show o g2=t;exact hog) (I Z x))
    clear iq hs BF hx hp2 hog hkl hu;go_wp2_with fail;go_roundw
    case rel=>exact⟨k+1,by simp,by omega,HP.out,HS2.out⟩
    case measure=>simp[intOf];omega
  ·obtain rfl:k=n:=by omega
   have e2:Kg q ps k=ps.take k:=by unfold Kg;rw[aj (by rw[Qg,<-HN.out];exact Qk _),Ai]
   rw[e2,HN.out,YH q ps (by rw[<-HN.out,<-HM.out];exact HL.out),<-HN.out]at iq
   go_wp2_with fail
   all_goals
    go_ret;exact⟨rfl,iq,hs⟩
end
structure Dt (w:Aa)(g off:Nat)(l:List Nat)(c:Nat):Prop where
 cap:l.length<=c
 lt:g<w.1.size
 at':∀ (j x:Nat),l[j]?=some x->w.cell? ⟨g,off+j,none⟩=some (nv x)
def Dt.Ao {T:Tag->Prop}{w w':Aa}{o o':Own}{g off c:Nat}{l:List Nat}(h:Dt w g off l c)(hs:Stp T o o' w w')(ht:¬T (o g)):Dt w' g off l c:=
 ⟨h.cap,Qn h.lt hs.size,fun j x hj=>by
  have:=hs.block g h.lt ht;rw[<-h.at' j x hj];simp only[World.cell?,this]⟩
def Dt.below {w w':Aa} {g off c:Nat} {l:List Nat} (h:Dt w g off l c) (hb:Ae w.1.size w w'):Dt w' g off l c:=h.Ao (o:=Ef) (o':=Ef) (T:=fun _=>False) (Stp.of_below hb) fun h=>h
def Dt.drop {w:Aa}{g off c:Nat}{l:List Nat}(h:Dt w g off l c){n:Nat}(hn:n<=l.length) :
  ∃ off',(if c=n then some (⟨g,off,none⟩:Addr) else some ⟨g,off+n,none⟩)=some ⟨g,off',none⟩/\Dt w g off' (l.drop n) (c-n):=by
 by_cases hc:c=n
 ·refine⟨off,if_pos hc,by rw[aa];have:=h.cap;omega,h.lt,fun j x hj=>?_⟩
  have h1:=h.cap;rw[aj (by omega)]at hj
  simp at hj
 ·refine⟨off+n,if_neg hc,by rw[aa];have:=h.cap;omega,h.lt,fun j x hj=>?_⟩
  rw[aA]at hj;rw[Nat.add_assoc];exact h.at' (n+j) x hj
def Dt.take {w:Aa}{g off c:Nat}{l:List Nat}(h:Dt w g off l c){n:Nat}(hn:n<=l.length):Dt w g off (l.take n) c:=
 ⟨by rw[Qp];have:=h.cap;omega,h.lt,fun j x hj=>by
  rw[Za]at hj;split at hj
  ·exact h.at' j x hj
  ·cases hj⟩
def Dt.Sq {T:Tag->Prop}{w:Aa}{o:Own}{g off c:Nat}{l:List Nat}(h:Dt w g off l c)(ht:¬T (o g)):NW T w o (Ah (some ⟨g,off,none⟩) l.length c) l:=
 ⟨_,_,rfl,fun j x hj=>⟨g,off,rfl,h.lt,ht,h.at' j x hj⟩⟩
section
variable {w w' : Aa} {o o' : Own} {y : A6} {S : An} {i : Nat}
def Aq.EW (h:Aq w o y S){H':Hp}{n:Nat}{T:Tag->Prop}(hH:Bp w' o' y.l H')(hc:Al w' y.cy (qmm y (E3 y.cy n)) 201)(hs:Stp T o o' w w')(hn:∀ j,10<=j->¬T (y.l.id,j)):Aq w' o' y { S with H:=H',ph:=n }:=by
 obtain⟨vq,vl,vm,hb,hr⟩:=h.AM;have hr':=hr.Ao hs fun j _ _=>hn j (by omega)
 exact⟨⟨vq,vl,vm,hb.Ao hs (by rw[h.os];exact hn _ (by omega)),hr'.1,hr'.2,hr'.3⟩,hc,hH,h.ck.Ao hs (by rw[h.oc];exact hn _ (by omega)),h.DV.Ao hs (hn _ (by omega)),fun i x hx=>(h.Au i x hx).Ao hs fun j _=>hn _ (by omega),(hs.tags _ h.ck.lt).trans h.oc,(hs.tags _ h.lt).trans h.os,(hs.tags _ h.cy.lt).trans h.oy⟩
def Tx.D6 (x:Tx)(ps:List Nat):Tx:={ x with log:=x.log.put ps }
def Tx.Kk (x:Tx)(ps:List Nat):Tx:={ x with AP:=vi x.AP ps }
def qg6 (h:Aq w o y S)(hk:(S.t i).log.fit)(hi:i<S.Au.length){g off c:Nat}{ps:List Nat}(hv:Dt w g off ps c)(hg:(o g).1≠y.l.id)(hn:ps.length=(S.t i).log.roots.length) :
  Ab ARt 66 #[ptr (y.lb i),Ah (some ⟨g,off,none⟩) ps.length c] w fun e w'=>e=O (.bool true)/\∃ o',Aq w' o' y (S.tx i ((S.t i).D6 ps))/\Stp (rj y.l.id (17+8*i)) o o' w w':=by
 have hx:=h.Au i _ (An.AV hi);obtain⟨vr,vk,vh,vu,hl⟩:=hx.log;obtain⟨vt,hb,hr⟩:=hx.AM;refine (qis hl hk (hv.Sq fun ht=>hg ht.1) hn).mono ?_
 rintro e w' ⟨rfl,o',hl',hs⟩
 have ht:∀ t,rj y.l.id (17+8*i) t->pj y i t:=fun t ⟨h1,h2,h3⟩=>⟨h1,by omega,by omega⟩
 have n0:¬rj y.l.id (17+8*i) (y.l.id,16+8*i):=fun hh=>by have:=hh.2.1;simp only at this;omega
 have n6:¬rj y.l.id (17+8*i) (y.l.id,22+8*i):=fun hh=>by have:=hh.2.2;simp only at this;omega
 exact⟨rfl,o',h.tx (x':=(S.t i).D6 ps) ⟨⟨vt,hb.Ao hs (by rw[hx.ob];exact n0),hr.Ao hs n6⟩,⟨vr,vk,vh,vu,hl'⟩,(hs.tags _ hb.lt).trans hx.ob⟩ (hs.mono ht),hs⟩
def qke (h:Aq w o y S)(hi:i<S.Au.length){g off c:Nat}{ps:List Nat}(hv:Dt w g off ps c)(hg:(o g).1≠y.l.id)(hn:(S.t i).AP.length<=ps.length)(hq:(S.t i).AP.length<=1099511627776) :
  ∃ dU pt ct,Al w (y.xb i) (zw i (S.t i) (y.lb i) (.slice pt (S.t i).AP.length ct)) 107/\Dt w g dU (ps.drop (S.t i).AP.length) (c-(S.t i).AP.length) /\
  Ab ARt 64 #[.slice pt (S.t i).AP.length ct,Ah (some ⟨g,off,none⟩) ps.length c] w fun e w'=>e=O (Ah (some ⟨g,dU,none⟩) (ps.length-(S.t i).AP.length) (c-(S.t i).AP.length)) /\
   Aq w' o y (S.tx i ((S.t i).Kk ps))/\Stp (fun t=>t=(y.l.id,22+8*i)) o o w w':=by
 have hx:=h.Au i _ (An.AV hi);obtain⟨vr,vk,vh,vu,hl⟩:=hx.log;obtain⟨vt,hb,hr⟩:=hx.AM;obtain⟨pt,ct,rfl⟩:=hr.AS;obtain⟨dU,hoff,hd⟩:=hv.drop hn;refine⟨dU,pt,ct,hb,hd,(YO hr hn hq hv.cap hv.at' hv.lt fun e=>hg (by rw[e])).mono ?_⟩
 rintro e w' ⟨rfl,hr',hs⟩
 rw[hoff];have ht:∀ t,t=(y.l.id,22+8*i)->pj y i t:=fun t e=>by rw[e];exact⟨rfl,by simp only;omega,by simp only;omega⟩
 refine⟨rfl,h.tx (x':=(S.t i).Kk ps) ⟨⟨_,hb.Ao hs (by rw[hx.ob];simp),?_⟩,⟨vr,vk,vh,vu,hl.Ao hs fun j hj=>by simp;omega⟩,(hs.tags _ hb.lt).trans hx.ob⟩ (hs.mono ht),hs⟩
 show Row w' o _ _ 2 _ (vi (S.t i).AP ps).length (qk (vi (S.t i).AP ps));rw[de];exact hr'
def qht (h:Aq w o y S){g off c:Nat}{ps:List Nat}(hv:Dt w g off ps c)(hg:(o g).1≠y.l.id)(hn:S.queue.length<=ps.length)(hq:S.queue.length<=1099511627776) :
  ∃ dU pt ct vl vm,Al w y.sb (qw y S (.slice pt S.queue.length ct) vl vm) 101/\Dt w g dU (ps.drop S.queue.length) (c-S.queue.length) /\
  Ab ARt 64 #[.slice pt S.queue.length ct,Ah (some ⟨g,off,none⟩) ps.length c] w fun e w'=>e=O (Ah (some ⟨g,dU,none⟩) (ps.length-S.queue.length) (c-S.queue.length)) /\
   Aq w' o y { S with queue:=vi S.queue ps }/\Stp (fun t=>t=(y.l.id,13)) o o w w':=by
 obtain⟨vq,vl,vm,hb,hr⟩:=h.AM;have hrq:=hr.q;obtain⟨pt,ct,rfl⟩:=hrq.AS;obtain⟨dU,hoff,hd⟩:=hv.drop hn;refine⟨dU,pt,ct,vl,vm,hb,hd,(YO hrq hn hq hv.cap hv.at' hv.lt fun e=>hg (by rw[e])).mono ?_⟩
 rintro e w' ⟨rfl,hr',hs⟩
 rw[hoff];have ht:∀ t,t=(y.l.id,13)->kl y t:=fun t e=>by rw[e];exact⟨rfl,.inr (.inl rfl)⟩
 refine⟨rfl,h.own (S':={ S with queue:=vi S.queue ps }) rfl rfl rfl rfl rfl (vq:=.slice pt S.queue.length ct) (hb.Ao hs (by rw[h.os];simp)) ⟨?_,hr.l.Ao hs (by simp),hr.m.Ao hs (by simp)⟩ (hs.mono ht),hs⟩
 show Row w' o _ _ 2 _ (vi S.queue ps).length (qk (vi S.queue ps));rw[de];exact hr'
def An.upto (S:An)(g:Nat->Nat)(k:Nat):An:={ S with queue:=E7 g S.queue,Au:=(S.Au.take k).map (Tx.at' g)++S.Au.drop k }
def Tr (S:An)(g:Nat->Nat)(k:Nat):(S.upto g k).Au.length=S.Au.length:=by
 unfold An.upto;simp only[Qd,Qg,Qp,aa];omega
def Ld (S:An)(g:Nat->Nat){k:Nat}(hk:k<S.Au.length):(S.upto g k).t k=S.t k:=by
 have e:((S.Au.take k).map (Tx.at' g)).length=k:=by rw[Qg,Qp];omega
 unfold An.t An.upto;simp only[Qi];rw[Ql (by omega),e,Nat.sub_self,aA,Nat.add_zero]
def qou (S:An)(g:Nat->Nat):S.upto g 0={ S with queue:=E7 g S.queue }:=by unfold An.upto;simp
def Lc (S:An)(g:Nat->Nat):S.upto g S.Au.length=S.at' g:=by unfold An.upto An.at';rw[ag,List.drop_length,Ai]
def qn5 (S:An)(g:Nat->Nat){k:Nat}(hk:k<S.Au.length):S.upto g (k+1)=(S.upto g k).tx k ((S.t k).at' g):=by
 have e:((S.Au.take k).map (Tx.at' g)).length=k:=by rw[Qg,Qp];omega
 have e2:S.Au.drop k=S.t k::S.Au.drop (k+1):=by rw[Ad hk];congr 1;have:=An.AV hk;rw[Qb hk]at this;injection this
 unfold An.tx An.upto;congr 1;simp only;rw[e2,ay _ _ (by omega),e,Nat.sub_self,az,aB,An.AV hk,Qx,af]
 rfl
def F3 (x:Tx)(g:Nat->Nat)(l:List Nat):((x.D6 (x.log.roots.map g)).Kk ((x.AP.map (·.1)).map g++l))=x.at' g:=by
 unfold Tx.D6 Tx.Kk Tx.at';simp only[ql7,Tq]
def E4 (ts:List Tx)(k:Nat):List Nat:=(ts.drop k).flatMap Tx.places
def K9 {S:An}{k:Nat}(hk:k<S.Au.length):E4 S.Au k=(S.t k).log.roots++((S.t k).AP.map (·.1)++E4 S.Au (k+1)):=by
 have e2:S.Au.drop k=S.t k::S.Au.drop (k+1):=by rw[Ad hk];congr 1;have:=An.AV hk;rw[Qb hk]at this;injection this
 unfold E4;rw[e2,List.flatMap_cons];unfold Tx.places;rw[af]
end
def XP (o:Own):∀ n:Nat,∃ N,∀ b,b<n->(o b).1<N
 | 0=>⟨0,fun b h=>by omega⟩
 | n+1=>by
  obtain⟨N,hN⟩:=XP o n;refine⟨N+(o n).1+1,fun b hb=>?_⟩;by_cases h:b=n
  ·rw[h];omega
  ·have:=hN b (by omega);omega
def Stp.shrink {T U:Tag->Prop}{o o':Own}{w w':Aa}(h:Stp U o o' w w')(ht:∀ b,b<w.1.size->U (o b)->T (o b)):Stp T o o' w w':=
 ⟨h.os,h.tape,h.output,h.size,h.tags,fun b hb hn=>h.block b hb fun hu=>hn (ht b hb hu)⟩
def Row.takeN {w:Aa}{o:Own}{t:Tag}{e:TypeId}{g n cap:Nat}{xs:List Ac}(h:Row w o t e 1 (Ah (some ⟨g,0,none⟩) n cap) n xs){k:Nat}(hk:k<=n):Row w o t e 1 (Ah (some ⟨g,0,none⟩) k cap) k (xs.take k):=by
 refine⟨?_,h.tag⟩;have h1:=h.own.1;rcases h.own.2 with ⟨h',_⟩|⟨g',cap',cur,h',hb,hg,hn,hc,hs,ht⟩
 ·simp at h'
 ·simp only[Value.slice.injEq,Zd,Addr.mk.injEq,and_true,true_and]at h'
  obtain⟨rfl,rfl⟩:=h';refine⟨by rw[Qp];omega,.inr ⟨g,cap,cur,rfl,hb,hg,by omega,hc,hs,?_⟩⟩
  rw[<-ht,List.take_take];congr 1;omega
def Row.Wq {w:Aa}{o:Own}{t:Tag}{e:TypeId}{g cap:Nat}{l:List Nat}(h:Row w o t e 1 (Ah (some ⟨g,0,none⟩) l.length cap) l.length (l.map nv)):Dt w g 0 l cap:=by
 rcases h.shape with ⟨h',_⟩|⟨g',cap',h',hn,_⟩
 ·simp at h'
 ·simp only[Value.slice.injEq,Zd,Addr.mk.injEq,and_true,true_and]at h'
  obtain⟨rfl,rfl⟩:=h';exact⟨hn,h.blt,fun j x hj=>by rw[Nat.zero_add];exact h.cells j _ (by rw[Qj,hj];rfl)⟩
section
variable {w w' : Aa} {o o' : Own} {y : A6} {S : An} {i : Nat}
def Aq.GN (h:Aq w o y S):CX w o y.l y.cy S.ph [] []:=⟨⟨_,_,h.cy,Row.nil _ _ _ _ _,Row.nil _ _ _ _ _⟩,h.oy⟩
def qgd (h:Aq w o y S)(hk:S.ok)(h0:S.ph≠0)(a:Option Addr)(n c:Nat) :
  Ab ARt 18 #[ptr y.sb,.slice a n c] w fun e w'=>e=O (Aj #[Ah none 0 0,.bool false])/\w=w':=by
 have HL:=Qa (p9 h.GN hk.ph.1);rw[decide_eq_true h0]at HL;obtain⟨vq,vl,vm,jb,_⟩:=h.AM;unfold qw at jb;have c':=jb.cell;clear h hk h0;go_enter func18,ntmps18;go_wp2_with fail;refine HL.out.mono ?_
 rintro e w1⟨rfl,rfl⟩
 go_wp2_with fail;go_ret2;exact⟨rfl,rfl⟩
def ul (H:Hp)(r:Nat):Bool:=decide (r=0)||(lk H.cur r).isSome
def qib (h:Aq w o y S)(hk:S.ok)(h0:S.ph=0){v:Ac}{ps:List Nat}{ta:Tag}(hv:Row w o ta 3 1 v ps.length (ps.map nv))(hp:ps.length<=100000)(hb:ps.all (ul S.H)=false) :
  Ab ARt 18 #[ptr y.sb,v] w fun e w'=>e=O (Aj #[Ah none 0 0,.bool false])/\Ae w.1.size w w':=by
 have HL:=Qa (p9 h.GN hk.ph.1);rw[show decide (S.ph≠0)=false from by rw[h0];rfl]at HL
 have HH:=Qa (fun (w2:Aa)(hb:Ae w.1.size w w2)(p:Nat)=>SD (h.below hb) hk p)
 obtain⟨vq,vl,vm,jb,_⟩:=h.AM;unfold qw at jb;obtain⟨pv,cv,rfl⟩:=hv.AS;have HV:=Qa hv;have HJ:=Qa jb;have HB:=Qa hb;obtain⟨H,hHe⟩:=Ja0 S.H;rw[<-hHe]at HH HB;obtain⟨n,hn⟩:=Ja0 ps.length;rw[<-hn]at HV hp ⊢;have HN:=Qa hn;have c':=jb.cell;generalize S.next=N at *;generalize S.Av=N1 at *;generalize S.version=N2 at *;clear h hk h0 hv hb jb hHe hn;go_enter func18,ntmps18;go_wp2_with fail;refine HL.out.mono ?_
 rintro e w1 ⟨rfl,rfl⟩
 go_wp2_with fail;clear c';go_loopw [25](fun ix wr=>∃ k:Nat,ix=I Z k/\k<=n/\(ps.take k).all (ul H)=true/\Ae w.1.size w wr)(fun ix _=>n-(intOf ix).toNat)
 case atStart=>exact⟨0,rfl,Nat.zero_le _,rfl,qd w⟩
 case round =>
  obtain⟨k,rfl,hkn,hall,hb⟩:=hrel;obtain⟨wo,rfl⟩:=Ja0 wr;have c':=(HJ.out.below hb HJ.out.lt).cell;by_cases hlt:k<n
  ·have gT:(k:Int)<(n:Int):=by omega
   obtain⟨x,hx⟩:∃ x,ps[k]?=some x:=⟨_,Qb (by rw[<-HN.out];exact hlt)⟩
   obtain⟨g,cap,e,hcell⟩:∃ g cap,Value.slice pv n cv=Ah (some ⟨g,0,none⟩) n cap/\wo.cell? ⟨g,k,none⟩=some (I Z x):=by
    rcases (HV.out.below hb).form with ⟨_,h0⟩|⟨g,cap,e,_⟩
    ·omega
    ·injection e with e1 _ e3
     subst e1 e3;exact⟨g,cv,rfl,(HV.out.below hb).cells k _ (by rw[Qj,hx];rfl)⟩
   injection e with e1 _ e3;subst e1 e3;have htk:(ps.take (k+1)).all (ul H)=((ps.take k).all (ul H)&&ul H x):=by rw[aB,hx,List.all_append];simp
   have qA:=Qa htk;have HC:=Qa (HH.out wo hb x);have HAL:=Qa hall;obtain⟨hw1,hw2⟩:=jd k (by omega)
   by_cases hx0:x=0
   ·subst hx0
    have hxb:(((0:Nat):Int) != 0)=false:=rfl;clear hx hall htk;go_wp2_with fail;go_roundw
    case rel=>exact⟨k+1,by simp,by omega,by rw[qA.out,HAL.out];rfl,hb⟩
    case measure=>simp[intOf];omega
   ·have hxb:((x:Int) != 0)=true:=by rw[bne_iff_ne];omega
    cases hs:(lk H.cur x).isSome with
    | true =>
     rw[hs]at HC;have hro:ul H x=true:=by unfold ul;rw[hs,Bool.or_true]
     have HRO:=Qa hro;clear hx hall htk hs hx0 hro;go_wp2_with fail;refine HC.out.mono ?_;rintro e w3 ⟨rfl,hb3⟩;go_wp2_with fail;go_roundw
     case rel=>exact⟨k+1,by simp,by omega,by rw[qA.out,HAL.out,HRO.out];rfl,qe hb hb3⟩
     case measure=>simp[intOf];omega
    | false =>
     rw[hs]at HC;clear hx hall htk hs hx0;go_wp2_with fail;refine HC.out.mono ?_;rintro e w3 ⟨rfl,hb3⟩;go_wp2_with fail;go_ret2;exact⟨rfl,qe hb hb3⟩
  ·exfalso
   have h1:k=n:=by omega
   rw[h1,HN.out,ag]at hall;have:=HB.out;rw[hall]at this
   cases this
end
section
variable {w w' : Aa} {o o' : Own} {y : A6} {S : An} {i : Nat}
def F2 {l:A7}{H:Hp}(h:Bp w o l H)(hk:H.ok)(p:Nat) :
  Ab ARt 69 #[ptr l.h,I Z p] w fun e w'=>∃ (sp sd:Nat)(wk fn:Bool)(er:Int),e=O (Aj #[Ak #[I Z sp,I Z sd,.bool wk,.bool fn],.bool (H.Di p),I Z er])/\Ae w.1.size w w':=by
 obtain⟨vc,vo,vw,vf,f,hh⟩:=h;unfold Hp.Di
 cases hp:lk H.cur p with
 | none =>
  refine (XK hh hk hp).mono ?_;rintro e w'⟨rfl,hb⟩;exact⟨0,0,false,false,_,rfl,hb⟩
 | some ob =>
  refine (Ut hh hk hp).mono ?_;rintro e w'⟨rfl,hb⟩;exact⟨_,_,_,_,_,rfl,hb⟩
def qob {l:A7}{H:Hp}(h:Bp w o l H)(hk:H.ok)(p:Nat) :
  Ab ARt 70 #[ptr l.h,I Z p] w fun e w'=>e=O (Aj #[I Z ((H.C2 p).1:Nat),I Z ((H.C2 p).2:Nat)])/\Ae w.1.size w w':=by
 obtain⟨vc,vo,vw,vf,f,hh⟩:=h;unfold Hp.C2
 cases hp:lk H.cur p with
 | none=>exact WS hh hk hp
 | some ob=>exact XC hh hk hp
def An.EW (S:An):An:={ S with H:=(uu S.H S.ph [] []).1,ph:=(uu S.H S.ph [] []).2.1 }
def An.Q1 (S:An):List Nat:=(uu S.H S.ph [] []).2.2.1
def An.JN (S:An):List Nat:=(uu S.H S.ph [] []).2.2.2.1
def qm5 (S:An):S.Dv=({ S.EW with lost:=S.lost++S.JN },S.Q1,(uu S.H S.ph [] []).2.2.2.2):=by
 unfold An.Dv An.EW An.Q1 An.JN uu;by_cases h0:S.ph=0
 ·simp only[h0,if_true,Ai]
  obtain⟨⟩:=S;simp only at h0;subst h0;rfl
 ·simp only[h0,if_false]
  by_cases h1:S.H.Ba.2=true
  ·simp only[h1,if_true,Ai];rfl
  ·have h1f:S.H.Ba.2=false:=by simpa using h1
   simp only[h1f,Bool.false_eq_true,if_false];by_cases h2:S.ph=1
   ·simp only[h2,if_true,Ai,ai]
   ·simp only[h2,if_false,ai]
def qiy (S:An)(l:List Nat)(p:Nat):({ S with lost:=l }:An).A9 p={ S.A9 p with lost:=l }:=by
 unfold An.A9;by_cases h:S.H.Di p=true\/100<=S.queue.length
 ·simp only[if_pos h]
 ·simp only[if_neg h]
def WK:∀ (ps:List Nat)(S:An)(l:List Nat),({ S with lost:=l }:An).Bd ps={ S.Bd ps with lost:=l }
 | [],S,l=>rfl
 | p::ps,S,l=>by
  show (({ S with lost:=l }:An).A9 p).Bd ps={ (S.A9 p).Bd ps with lost:=l };rw[qiy,WK ps]
def UN (S:An):S.B9=({ S.EW.Bd S.Q1 with lost:=S.lost++S.JN },(uu S.H S.ph [] []).2.2.2.2):=by
 unfold An.B9;rw[qm5];simp only;rw[WK]
end
section
variable {w w' : Aa} {o o' : Own} {y : A6} {S : An} {i : Nat}
def PQ (hk:S.ok):S.EW.ok/\S.EW.next+S.EW.H.final.length+S.Q1.length<=S.EW.H.Aw:=by
 obtain⟨h1,h2⟩:=lh hk;rw[qm5]at h1 h2;simp only at h1 h2;exact⟨⟨h1.H,h1.n2,h1.lv,h1.t1,h1.t8,h1.lg,h1.st,h1.ve,h1.ho,h1.sc,h1.so,h1.qu,h1.nx,h1.cm,h1.se,h1.ph⟩,h2⟩
def PV (hk:S.ok):S.H.A8.2.length<=1099511627776:=by
 have h1:=hk.H.fl;have h2:=hk.H.ok.Cw;unfold Hp.A8;split
 ·simp
 ·rw[wa]
  have:=vy S.H S.H.final;omega
def VC (hk:S.ok):S.H.drop.2.1.length<=1099511627776:=by
 have h1:=hk.H.wl;have h2:=hk.H.ok.Cw;unfold Hp.drop;split
 ·simp
 ·have h3:=bz S.H.settled.Az S.H.settled
  have h4:S.H.settled.Az.length<=S.H.Az.length:=by show (S.H.stay S.H.Az).length<=_;have:=vy S.H S.H.Az;omega
  simp only;omega
def KE (h:Aq w o y S)(hk:S.ok) :
  Ab ARt 67 #[ptr y.cy] w fun e w'=>e=O (.bool S.B9.2)/\∃ o' vr vs,Ch w' o' y S.EW vr vs S.Q1 S.JN/\Stp (qo y) o o' w w':=by
 rw[UN];simp only;have ho:=h.Sw;by_cases h0:S.ph=0
 ·have e:uu S.H S.ph [] []=(S.H,0,[],[],false):=by unfold uu;rw[if_pos h0]
  have hc:=h.GN;rw[h0]at hc;refine (qlx hc).mono ?_;rintro e' w'⟨rfl,hb⟩;unfold An.EW An.Q1 An.JN;rw[e];refine⟨rfl,o,Ah none 0 0,Ah none 0 0,?_,Stp.of_below hb⟩;have e2:({ S with H:=S.H,ph:=0 }:An)=S:=by obtain⟨⟩:=S;simp only at h0;subst h0;rfl
  simp only;rw[e2];exact ho.below hb
 ·refine (GL h.hp hk.H h.GN (by have:=hk.ph.1;omega) (by simp) (PV hk) (by simp) (VC hk)).mono ?_
  rintro e' w'⟨rfl,o',hH,hC,hs⟩;obtain⟨vr,vs,hb,h1,h2⟩:=hC.AM;exact⟨rfl,o',vr,vs,ho.EW hH hb h1 h2 hs,hs.mono fun _ h=>h.1⟩
end
def ba (y:A6)(j:Nat)(h:j=11\/j=13\/j=14\/j=15):kl y (y.l.id,j):=⟨rfl,h⟩
def qhr (S:An)(p:Nat):(S.A9 p).next<=S.next+1:=by
 unfold An.A9;split
 ·exact Nat.le_succ _
 ·exact Qk _
def WE:∀ (l:List Nat)(S:An),(S.Bd l).next<=S.next+l.length
 | [],S=>Qk _
 | p::l,S=>by
  have h1:=qhr S p;have h2:=WE l (S.A9 p);show ((S.A9 p).Bd l).next<=_;rw[Qv];omega
def WG:∀ (l:List Nat)(S:An),(S.Bd l).lost=S.lost
 | [],_=>rfl
 | p::l,S=>by
  show ((S.A9 p).Bd l).lost=_;rw[WG l (S.A9 p)];unfold An.A9;split<;>rfl
section
variable {w w' : Aa} {o o' : Own} {y : A6} {S : An} {i : Nat}
def qpk (h0:Aq w o y S) (hk:S.ok) (hl:S.lost.length<=1099511627776) :
  Ab ARt 19 #[ptr y.sb] w fun e w'=>e=O (.bool S.B9.2)/\Bl y S.B9.1 o w w':=by
 obtain⟨iI,hi,hsI,bZ,bT⟩:=jh;obtain⟨iU,hiU,hsU,hyU,hzU⟩:=mm;have hu64:=underlying25;have huI:=underlying99;have HY:=Qa (KE h0 hk);obtain⟨hk1,hk2⟩:=PQ hk
 have hls:S.JN.length<=1099511627776:=by
  unfold An.JN uu;split
  ·simp
  ·split
   ·simp
   ·split
    ·simp
    ·simp only[ai];exact VC hk
 have hfin:=UN S;obtain⟨T,hT⟩:=Ja0 S.EW;obtain⟨rd,hrd⟩:=Ja0 S.Q1;obtain⟨ls,Aai⟩:=Ja0 S.JN;obtain⟨b,hb⟩:=Ja0 S.B9.2;have hTl:T.lost=S.lost:=by rw[hT];rfl
 rw[<-hT,<-hrd,<-Aai]at HY hfin;rw[<-hb]at HY ⊢;rw[<-hT]at hk1 hk2;rw[<-hrd]at hk2;rw[<-Aai]at hls;have hS1:S.B9.1={ T.Bd rd with lost:=S.lost++ls }:=by rw[hfin]
 rw[hS1,<-hTl];rw[<-hTl]at hl;obtain⟨vq,vl,vm,jb,_⟩:=h0.AM;unfold qw at jb;have c:=jb.cell;have HK1:=Qa hk1;have HK2:=Qa hk2;have yL:=Qa hls;have HTl:=Qa hl;generalize S.next=N at *;generalize S.Av=N1 at *;generalize S.version=N2 at *;clear h0 hk hl hT hrd Aai hb hTl hfin hk1 hk2 hls hS1 jb;go_enter func19,ntmps19;go_wp2_with fail;refine HY.out.mono ?_
 rintro e w1 ⟨rfl,o1,vr,vs,hC1,hs1⟩
 have tK:=Qa (qok hC1.cb hC1.oy hC1.cr);obtain⟨vq1,vl1,vm1,j1,_⟩:=hC1.AM;unfold qw at j1;clear c;have c:=j1.cell;have nW:=Qa hC1;have iW:=Qa hs1;clear hC1 hs1 HY;go_wp2_with fail;refine tK.out.mono ?_
 rintro e w2 ⟨rfl,hr2,hb2,hs2⟩
 obtain⟨pr,cr,rfl⟩:=hr2.AS;have hC2:Ch w2 o1 y T (Ah none 0 0) vs [] ls:=nW.out.Wo hb2 (Row.nil _ _ _ _ _) (nW.out.cl.Ao hs2 (by simp)) hs2
 have Agl:Stp (qo y) o o1 w w2:=iW.out.trans (hs2.mono (by rintro _ rfl;exact rfl))
 obtain⟨n,hn⟩:=Ja0 rd.length;rw[<-hn]at hr2 ⊢;have HN:=Qa hn;have oQ:n<=1099511627776:=by rw[hn];have:=HK2.out;have:=HK1.out.H.ok.Cw;omega
 have Alm:=Qa oQ;have HX:=Qa (And.intro hC2 (And.intro hr2 Agl));clear hC2 hr2 Agl hs2 hb2 nW iW tK c j1 hn oQ;go_wp2_with fail;go_loopw [24] (fun ix wr=>∃ (k:Nat) (oo:Own),ix=I Z k/\k<=n/\Ch wr oo y (T.Bd (rd.take k)) (Ah none 0 0) vs [] ls/\Row wr oo (y.l.id,8) 3 1 (.slice pr n cr) n (rd.map nv)/\Stp (qo y) o oo w wr) (fun ix _=>n-(intOf ix).toNat)
 case atStart=>exact⟨0,o1,rfl,Nat.zero_le _,HX.out⟩
 case round =>
  clear HX;obtain⟨k,oo,rfl,hkn,hC,hr,hs⟩:=hrel;obtain⟨wo,rfl⟩:=Ja0 wr;have hok:=bm (rd.take k) HK1.out (by rw[Qp];have:=HK2.out;omega)
  by_cases hlt:k<n
  ·have gT:(k:Int)<(n:Int):=by omega
   obtain⟨x,hx⟩:∃ x,rd[k]?=some x:=⟨_,Qb (by rw[<-HN.out];exact hlt)⟩
   have htk:=kh hx;have hst:T.Bd (rd.take (k+1))=(T.Bd (rd.take k)).A9 x:=by rw[htk];exact qh2 _ _ _
   have hnx:(T.Bd (rd.take k)).next+1<=1099511627776/\(T.Bd (rd.take k)).came.length+1<=1099511627776:=by
    have h1:=WE (rd.take k) T;have h2:=hok.1.cm;have h3:=HK2.out;have h4:=HK1.out.H.ok.Cw;rw[Qp]at h1;have h5:=HN.out;omega
   obtain⟨U,hU⟩:=Ja0 (T.Bd (rd.take k));rw[<-hU]at hC hok hst hnx;have HST:=Qa hst;obtain⟨g,cap,e,hcell⟩:∃ g cap,Value.slice pr n cr=Ah (some ⟨g,0,none⟩) n cap/\wo.cell? ⟨g,k,none⟩=some (I Z x):=by
    rcases hr.form with ⟨_,h0⟩|⟨g,cap,e,_⟩
    ·omega
    ·injection e with e1 _ e3
     subst e1 e3;exact⟨g,cr,rfl,hr.cells k _ (by rw[Qj,hx];rfl)⟩
   injection e with e1 _ e3;subst e1 e3;have wU:=Qa (F2 hC.hp hok.1.H.ok x);have HK:=Qa hok.1;obtain⟨vq,vl,vm,jb,hrw⟩:=hC.AM;unfold qw at jb;have hrq:=hrw.q;obtain⟨pq,cq,rfl⟩:=hrq.AS;have HJ:=Qa jb;have HW:=Qa hrw;have HC:=Qa hC;have HR:=Qa hr;have HS:=Qa hs;have HNX:=Qa hnx;have HKN:=Qa (jd k (by have:=Alm.out;omega))
   have c:=jb.cell
   cases hf:U.H.Di x with
   | true =>
    rw[hf]at wU;have hr1:U.A9 x=U:=by unfold An.A9;rw[if_pos (.inl hf)]
    rw[hr1]at HST;clear hx htk hst hnx hC hok hU hr1 hf jb hrw hr hs hrq;go_wp2_with fail;refine wU.out.mono ?_;rintro e w3 ⟨sp,sd,wk,fn,er,rfl,hb3⟩;obtain⟨hw1,hw2⟩:=HKN.out;clear c;go_wp2_with fail;go_roundw
    case rel=>exact⟨k+1,oo,by simp,hlt,by rw[HST.out];exact HC.out.below (qc hb3 _),HR.out.below (qc hb3 _),HS.out.trans (Stp.of_below (qc hb3 _))⟩
    case measure=>simp[intOf];omega
   | false =>
    rw[hf]at wU;by_cases yZ:100<=U.queue.length
    ·have hr1:U.A9 x=U:=by unfold An.A9;rw[if_pos (.inr yZ)]
     rw[hr1]at HST;have hqI:(100:Int)<=(U.queue.length:Int):=by omega
     obtain⟨hw1,hw2⟩:=HKN.out;clear hx htk hst hnx hC hok hU hr1 hf hrw hr hs hrq;go_wp2_with (first|(go_at_call 69;refine wU.out.mono ?_;rintro e w3 ⟨sp,sd,wk,fn,er,rfl,hb3⟩;have c3:=((jb.below hb3 jb.lt).alloc (.cells #[I Z sp,I Z sd,.bool wk,.bool fn] 93)).cell)|fail)
     go_roundw
     case rel=>exact⟨k+1,oo,by simp,hlt,by rw[HST.out];exact HC.out.below (qc hb3 _),HR.out.below (qc hb3 _),HS.out.trans (Stp.of_below (qc hb3 _))⟩
     case measure=>simp[intOf];omega
    ·have hr1:U.A9 x={ U with queue:=U.queue++[(x,U.next)],came:=U.came++[(U.H.C2 x).1],next:=U.next+1 }:=by unfold An.A9;rw[if_neg (by rw[hf];simp[yZ])]
     rw[hr1]at HST;have hqI:¬((100:Int)<=(U.queue.length:Int)):=by omega
     have qF:U.queue.length<100:=by omega
     have HSe:=Qa (fun (w2:Aa) (hb:Ae wo.1.size wo w2)=>qob (HC.out.below hb).hp HK.out.H.ok x);obtain⟨Cw,gI⟩:=Ja0 ((U.H.C2 x).1);obtain⟨se2,Agm⟩:=Ja0 ((U.H.C2 x).2);rw[<-gI]at HST HSe;rw[<-Agm]at HSe;clear hx htk hst hnx hC hok hU hr1 hf hrw hr hs hrq yZ gI Agm;go_wp2_with (first
      | (go_at_call 69;refine wU.out.mono ?_;rintro e w3 ⟨sp,sd,wk,fn,er,rfl,hb3⟩;have c3:=((jb.below hb3 jb.lt).alloc (.cells #[I Z sp,I Z sd,.bool wk,.bool fn] 93)).cell;have ig:=qc hb3 (.cells #[I Z sp,I Z sd,.bool wk,.bool fn] 93))
      | (go_at_call 70;refine (HSe.out _ ig).mono ?_;rintro e w4 ⟨rfl,hb4⟩;have hbw:=qe ig hb4;have c4:=(jb.below hbw jb.lt).cell)
      | fail)
     have C4:=HC.out.below hbw;have R4:=Qa (HR.out.below hbw);have S4:=Qa (HS.out.trans (Stp.of_below hbw));obtain⟨vq4,vl4,vm4,j4,rU⟩:=C4.AM;have hoS:=C4.os;have rq4:=rU.q;have rm4:=rU.m;obtain⟨pq4,cq4,rfl⟩:=rq4.AS;obtain⟨pm4,cm4,rfl⟩:=rm4.AS;have J4:=Qa j4;unfold qw at j4;clear c c3 c4 hb3 ig hb4 hbw wU HSe HC HR HS HJ HW jb;have c4:=j4.cell;have Avf:∀ b,o b=(y.l.id,13)->True:=fun _ _=>trivial;have jn:=Al.new w4.drew #[I Z x,I Z U.next] 117;have rn:Row (w4.drew.alloc (.cells #[I Z x,I Z U.next] 117)) oo (y.l.id,13) 117 2 (.slice pq4 U.queue.length cq4) U.queue.length (qk U.queue):=rq4.below (qc (qf (qd w4)) _);have dX:U.queue.length+1<=maxLen/\(U.queue.length+1)*16<=140737488355328:=by simp only[maxLen];omega
     obtain⟨dX,hmb⟩:=dX;have h1c:∀ u ∈ [Value.int .i64 (x:Int),I Z (U.next:Int)],u.oneCell'=true:=by intro u hu;simp at hu;rcases hu with rfl|rfl<;>rfl
     have Adj:=Qa (fun (w5:Aa) (o5:Own) (p5:Option Addr) (c5:Nat) (hown:Row w5 o5 (y.l.id,13) 117 2 (.slice p5 (U.queue.length+1) c5) (U.queue.length+1) (qk U.queue++[I Z x,I Z U.next])) (hst:Stp (fun u=>u=(y.l.id,13)) oo o5 (w4.drew.alloc (.cells #[I Z x,I Z U.next] 117)) w5) =>
      show Ch (w5.setCell ⟨y.sb,4,none⟩ (.slice p5 (U.queue.length+1) c5)) o5 y { U with queue:=U.queue++[(x,U.next)] } (Ah none 0 0) vs [] ls/\Row (w5.setCell ⟨y.sb,4,none⟩ (.slice p5 (U.queue.length+1) c5)) o5 (y.l.id,8) 3 1 (Ah (some ⟨g,0,none⟩) n cr) n (rd.map nv)/\Stp (qo y) o o5 w (w5.setCell ⟨y.sb,4,none⟩ (.slice p5 (U.queue.length+1) c5)) from by
       have kb:Stp (fun u=>u=(y.l.id,13)) oo oo w4 (w4.drew.alloc (.cells #[I Z x,I Z U.next] 117)):=Stp.of_below (qc (qf (qd w4)) _);have k1:=kb.trans hst;have o5s:o5 y.sb=(y.l.id,11):=(k1.tags _ J4.out.lt).trans hoS;have k2:Stp (fun u=>u=(y.l.id,11)) o5 o5 w5 (w5.setCell ⟨y.sb,4,none⟩ (.slice p5 (U.queue.length+1) c5)):=(Stp.refl _ o5 w5).setCell (by show o5 y.sb=_;exact o5s) _
       have k3:Stp (kl y) oo o5 w4 (w5.setCell ⟨y.sb,4,none⟩ (.slice p5 (U.queue.length+1) c5)):=(k1.mono (by rintro _ rfl;exact ba y 13 (by omega))).trans (k2.mono (by rintro _ rfl;exact ba y 11 (by omega)))
       have hq5:Row (w5.setCell ⟨y.sb,4,none⟩ (.slice p5 (U.queue.length+1) c5)) o5 (y.l.id,13) 117 2 (.slice p5 (U.queue.length+1) c5) (U.queue++[(x,U.next)]).length (qk (U.queue++[(x,U.next)])):=
        (hown.Ao k2 (by simp)).ite (by simp) (by rw[fx];rfl)
       refine⟨C4.own (S':={ U with queue:=U.queue++[(x,U.next)] }) rfl rfl rfl rfl rfl ((J4.out.Ao k1 (by rw[hoS];simp)).set 4 _) ⟨hq5,(rU.l.Ao k1 (by simp)).Ao k2 (by simp),(rU.m.Ao k1 (by simp)).Ao k2 (by simp)⟩ k3,R4.out.Ao k3 (bj (by omega) (by omega) (by omega) (by omega)),S4.out.trans (k3.mono fun _ h=>h.1)⟩)
     have HJk:=Qa (fun (w5:Aa) (o5:Own) (hst:Stp (fun u=>u=(y.l.id,13)) oo o5 (w4.drew.alloc (.cells #[I Z x,I Z U.next] 117)) w5)=>(j4.below (qc (qf (qd w4)) (.cells #[I Z x,I Z U.next] 117)) j4.lt).Ao hst (by rw[hoS];simp))
     have s4:=j4.lt;clear C4 rU rq4 rm4;go_region_law ((refine qv _ (by rfl) _ _ _ (by rfl) 117 iU _ 2 16 huI hiU hzU hsU hyU (by rfl) (by decide) oo (y.l.id,13) _ _ _ (by rfl) rn ⟨w4.1.size,0,none⟩ 1 1 [I Z x,I Z U.next] (by rfl) (by rfl) (xw jn) h1c dX hmb ?_;intro v' w5 hown hst;obtain⟨p5,c5,rfl⟩:=hown.AS;have jX:=HJk.out _ _ hst;have cX:=jX.cell;have zX:=jX.free;have sX:=jX.lt))
     all_goals
      obtain⟨W6,o6,eF,C6,R6,S6⟩:∃ (W6:Aa) (o6:Own),W6=w5.setCell ⟨y.sb,4,none⟩ (.slice p5 (U.queue.length+1) c5)/\Ch W6 o6 y { U with queue:=U.queue++[(x,U.next)] } (Ah none 0 0) vs [] ls /\
       Row W6 o6 (y.l.id,8) 3 1 (Ah (some ⟨g,0,none⟩) n cr) n (rd.map nv)/\Stp (qo y) o o6 w W6:=⟨_,_,rfl,Adj.out w5 _ p5 c5 hown hst⟩
      rw[<-eF];clear eF hown hst jX cX zX sX Adj HJk J4 R4 S4;have o6s:=C6.os;obtain⟨vq6,vl6,vm6,j6,vK⟩:=C6.AM;have rm6:=vK.m;obtain⟨pm6,cm6,rfl⟩:=rm6.AS;have j6':Al W6 y.sb #[ptr y.l.h,ptr y.cy,ptr y.ck,y.EM,vq6,I Z U.next,I Z U.Av,I Z U.version,vl6,.slice pm6 U.came.length cm6] 101:=j6;have Ahl:Row W6 o6 (y.l.id,15) 3 1 (.slice pm6 U.came.length cm6) U.came.length (U.came.map nv):=rm6;have Akq:=Qa (fun (w7:Aa) (o7:Own) (p7:Option Addr) (c7:Nat) (mW:Row w7 o7 (y.l.id,15) 3 1 (.slice p7 (U.came.length+1) c7) (U.came.length+1) (U.came.map nv++[I Z Cw])) (oZ:Stp (fun t=>t=(y.l.id,15)) o6 o7 (W6.alloc (.cells #[I Z Cw] 3)) w7) =>
       show Al w7 y.sb #[ptr y.l.h,ptr y.cy,ptr y.ck,y.EM,vq6,I Z U.next,I Z U.Av,I Z U.version,vl6,.slice pm6 U.came.length cm6] 101 /\
        Ch ((w7.setCell ⟨y.sb,9,none⟩ (.slice p7 (U.came.length+1) c7)).setCell ⟨y.sb,5,none⟩ (I Z ((U.next:Int)+1))) o7 y { U with queue:=U.queue++[(x,U.next)],came:=U.came++[Cw],next:=U.next+1 } (Ah none 0 0) vs [] ls /\
        Row ((w7.setCell ⟨y.sb,9,none⟩ (.slice p7 (U.came.length+1) c7)).setCell ⟨y.sb,5,none⟩ (I Z ((U.next:Int)+1))) o7 (y.l.id,8) 3 1 (Ah (some ⟨g,0,none⟩) n cr) n (rd.map nv) /\
        Stp (qo y) o o7 w ((w7.setCell ⟨y.sb,9,none⟩ (.slice p7 (U.came.length+1) c7)).setCell ⟨y.sb,5,none⟩ (I Z ((U.next:Int)+1))) from by
       have k1:Stp (fun t=>t=(y.l.id,15)) o6 o7 W6 w7:=(Stp.of_below (qc (qd W6) _)).trans oZ;have j7:=j6'.Ao k1 (by rw[o6s];simp)
       have o7s:o7 y.sb=(y.l.id,11):=(k1.tags _ j6'.lt).trans o6s;have k2:Stp (fun t=>t=(y.l.id,11)) o7 o7 w7 ((w7.setCell ⟨y.sb,9,none⟩ (.slice p7 (U.came.length+1) c7)).setCell ⟨y.sb,5,none⟩ (I Z ((U.next:Int)+1))):=((Stp.refl _ o7 w7).setCell (by show o7 y.sb=_;exact o7s) _).setCell (by show o7 y.sb=_;exact o7s) _
       have k3:Stp (kl y) o6 o7 W6 ((w7.setCell ⟨y.sb,9,none⟩ (.slice p7 (U.came.length+1) c7)).setCell ⟨y.sb,5,none⟩ (I Z ((U.next:Int)+1))):=(k1.mono (by rintro _ rfl;exact ba y 15 (by omega))).trans (k2.mono (by rintro _ rfl;exact ba y 11 (by omega)))
       have j9:=(j7.set 9 (.slice p7 (U.came.length+1) c7)).set 5 (I Z ((U.next:Int)+1));refine⟨j7,C6.own (S':={ U with queue:=U.queue++[(x,U.next)],came:=U.came++[Cw],next:=U.next+1 }) rfl rfl rfl rfl rfl (vq:=vq6) (vl:=vl6) (vm:=.slice p7 (U.came.length+1) c7) j9 ⟨(vK.q.Ao k1 (by simp)).Ao k2 (by simp),(vK.l.Ao k1 (by simp)).Ao k2 (by simp),(mW.Ao k2 (by simp)).ite (by simp) (by simp[nv])⟩ k3,R6.Ao k3 (bj (by omega) (by omega) (by omega) (by omega)),S6.trans (k3.mono fun _ h=>h.1)⟩)
      have lV:U.came.length+1<=maxLen/\(U.came.length+1)*8<=140737488355328:=by have:=HNX.out;simp only[maxLen];omega
      obtain⟨lV,rP⟩:=lV;obtain⟨hw1,hw2⟩:=HKN.out;obtain⟨hw3,hw4⟩:=jd U.next (by have:=HNX.out;omega)
      have RM6:=Qa Ahl;have c6:=j6'.cell;have l6:=j6'.lt;clear C6 R6 S6 vK rm6 Ahl j6 j6' o6s;go_wp2_with (first
       | (at_builtin;refine qi _ rfl _ _ _ rfl 3 iI _ 1 8 hu64 hi bT hsI bZ rfl (by decide) o6 (y.l.id,15) _ _ _ rfl (RM6.out.below (qc (qd W6) _)) ⟨W6.1.size,0,none⟩ 1 1 [I Z Cw] rfl rfl (zj (Al.new W6 _ _)) ka lV rP ?_;intro v7 w7 mW oZ;obtain⟨p7,c7,rfl⟩:=mW.AS;obtain⟨j7,hfin⟩:=Akq.out _ _ _ _ mW oZ;have c7:=j7.cell;have z7:=j7.free;have l7:=j7.lt)
       | fail)
      go_roundw
      case rel=>exact⟨k+1,_,by simp,hlt,by rw[HST.out];exact hfin.1,hfin.2.1,hfin.2.2⟩
      case measure=>clear hw1 hw2 hw3 hw4 lV rP hqI HNX;simp[intOf];omega
  ·obtain rfl:k=n:=by omega
   rw[HN.out,ag]at hC;have hlo:(T.Bd rd).lost=T.lost:=WG rd T;obtain⟨TT,rG⟩:=Ja0 (T.Bd rd);rw[<-rG]at hC hlo;have dM:=Qa (show ∀ (w':Aa) (o':Own),Aq w' o' y { TT with lost:=TT.lost++ls }->Stp (qo y) o o' w w'->Bl y { T.Bd rd with lost:=T.lost++ls } o w w' from fun w' o' h1 h2=>⟨o',by rw[<-hlo,<-rG];rw[rG]at h1 ⊢;exact h1,h2⟩)
   rw[<-hlo]at HTl;obtain⟨vq,vl,vm,jb,hrw⟩:=hC.AM;have hrl:=hrw.l;obtain⟨pl,cl,rfl⟩:=hrl.AS;have hcl:=hC.cl;obtain⟨pvs,cvs,rfl⟩:=hcl.AS;have jb':Al wo y.sb #[ptr y.l.h,ptr y.cy,ptr y.ck,y.EM,vq,I Z TT.next,I Z TT.Av,I Z TT.version,.slice pl TT.lost.length cl,vm] 101:=jb;have HLo:=Qa (GG (hC.below (qf (qd wo))).cb hC.oy (hC.below (qf (qd wo))).cl);have oS:=hC.os;have HX:=Qa (fun (w3:Aa) (hr:Row w3 oo (y.l.id,9) 3 1 (.slice pvs ls.length cvs) ls.length (ls.map nv)) (hb:Al w3 y.cy #[ptr y.l.h,E3 y.cy TT.ph,Ah none 0 0,Ah none 0 0] 201) (h3:Stp (fun t=>t=(y.l.id,7)) oo oo wo.drew w3) =>
    show Ch w3 oo y TT (Ah none 0 0) (Ah none 0 0) [] []/\Al w3 y.sb #[ptr y.l.h,ptr y.cy,ptr y.ck,y.EM,vq,I Z TT.next,I Z TT.Av,I Z TT.version,.slice pl TT.lost.length cl,vm] 101/\Row w3 oo (y.l.id,14) 3 1 (.slice pl TT.lost.length cl) TT.lost.length (TT.lost.map nv) from by
     have h3':Stp (fun t=>t=(y.l.id,7)) oo oo wo w3:=(Stp.of_below (qf (qd wo))).trans h3;exact⟨hC.Wo hb (Row.nil _ _ _ _ _) (Row.nil _ _ _ _ _) h3',jb'.Ao h3' (by rw[oS];simp),hrl.Ao h3' (by simp)⟩)
   have HY:=Qa (fun (w3 w5:Aa) (o5:Own) (v5:Ac) (h3:Stp (fun t=>t=(y.l.id,7)) oo oo wo.drew w3) (C3:Ch w3 oo y TT (Ah none 0 0) (Ah none 0 0) [] []) (j3:Al w3 y.sb #[ptr y.l.h,ptr y.cy,ptr y.ck,y.EM,vq,I Z TT.next,I Z TT.Av,I Z TT.version,.slice pl TT.lost.length cl,vm] 101)
     (hown:Row w5 o5 (y.l.id,14) 3 1 v5 (TT.lost.length+ls.length) (TT.lost.map nv++ls.map nv)) (hst:Stp (fun t=>t=(y.l.id,14)) oo o5 w3 w5) =>
    show Al w5 y.sb #[ptr y.l.h,ptr y.cy,ptr y.ck,y.EM,vq,I Z TT.next,I Z TT.Av,I Z TT.version,.slice pl TT.lost.length cl,vm] 101/\Bl y { T.Bd rd with lost:=T.lost++ls } o w (w5.setCell ⟨y.sb,8,none⟩ v5) from by
     have j5:=j3.Ao hst (by rw[oS];simp)
     have o5s:o5 y.sb=(y.l.id,11):=(hst.tags _ j3.lt).trans oS;have k2:Stp (fun t=>t=(y.l.id,11)) o5 o5 w5 (w5.setCell ⟨y.sb,8,none⟩ v5):=(Stp.refl _ o5 w5).setCell (by show o5 y.sb=_;exact o5s) _
     have k3:Stp (kl y) oo o5 w3 (w5.setCell ⟨y.sb,8,none⟩ v5):=(hst.mono (by rintro _ rfl;exact ba y 14 (by omega))).trans (k2.mono (by rintro _ rfl;exact ba y 11 (by omega)))
     obtain⟨wI,vl',vm',jx,hrx⟩:=C3.AM;have exq:wI=vq/\vm'=vm:=by
      have a1:=jx.cell (i:=4);have a2:=jx.cell (i:=9);rw[j3.cell]at a1 a2;simp[qw]at a1 a2;exact⟨a1.symm,a2.symm⟩
     obtain⟨rfl,rfl⟩:=exq;have C5:=C3.own (S':={ TT with lost:=TT.lost++ls }) rfl rfl rfl rfl rfl (vq:=wI) (vl:=v5) (vm:=vm') (j5.set 8 v5) ⟨(hrx.q.Ao hst (by simp)).Ao k2 (by simp),(hown.Ao k2 (by simp)).ite (by simp) (by simp),(hrx.m.Ao hst (by simp)).Ao k2 (by simp)⟩ k3
     have h3':Stp (qo y) oo oo wo w3:=((Stp.of_below (qf (qd wo))).trans h3).mono (by rintro _ rfl;rfl)
     exact⟨j5,dM.out _ _ C5.close ((hs.trans h3').trans (k3.mono fun _ h=>h.1))⟩)
   have dX:TT.lost.length+ls.length<=maxLen/\(TT.lost.length+ls.length)*8<=140737488355328:=by have:=HTl.out;have:=yL.out;simp only[maxLen];omega
   obtain⟨dX,hmb⟩:=dX;have eu:w.1.size<=wo.1.size:=hs.size;have cb:=jb'.cell;have lb:=jb'.lt;clear rG hlo hrw hrl hcl jb jb' hC hs hr hok dM hlt hkn eu;go_upto_region 14 with fail;go_region_law (first
    | (refine me _ (by rfl) _ _ _ (by rfl) 3 iI _ 1 8 hu64 hi bT hsI bZ (by rfl) (by decide) oo (y.l.id,14) _ TT.lost.length (TT.lost.map nv) (by rfl) rL oo (y.l.id,9) _ ls.length (ls.map nv) (by rfl) rS (tt _) dX hmb ?_;intro v5 w5 hown hst;obtain⟨p5,c5,rfl⟩:=hown.AS;obtain⟨j5,hfin⟩:=HY.out _ _ _ _ h3 C3 j3 hown hst;have c5':=j5.cell;have z5:=j5.free;have l5:=j5.lt)
    | (go_simp;go_wp2_with ((go_at_call 71;refine HLo.out.mono ?_;rintro e w3 ⟨rfl,rS,b3,h3⟩;obtain⟨C3,j3,rL⟩:=HX.out w3 rS b3 h3;have c3:=j3.cell;have l3:=j3.lt))))
   all_goals
    go_wp2_with fail;go_ret;exact⟨rfl,hfin⟩
