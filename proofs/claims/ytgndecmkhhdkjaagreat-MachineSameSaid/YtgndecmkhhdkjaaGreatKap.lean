import Derived.Test.YtgndecmkhhdkjaaGreatKam
set_option linter.all false
set_option maxRecDepth 1000000
set_option maxHeartbeats 0
open Go renaming World->Aa,Calls->Ab,Value->Ac
open Go.RowKit renaming Below->Ae
open Go.Value renaming int->I,slice->Ai,tuple->Ak
open Go.IntKind renaming i64->Z
open Go.Ending renaming returned->O
namespace Go.Proofs.YtgndecmkhhdkjaaGreat
open Go.RowKit Hp
attribute [local go_sem ↓] Go.wp_at_zero Go.wp_at_succ
section
variable {w w' : Aa} {o o' : Own} {y : Bl} {S : Am} {i : Nat}
def Av.A0 {x:Tx}{z:Nat×Nat}(h:Av w o y S)(hx:S.Au[i]?=some x){v:Ac}(hs:Stp (fun t=>t=(y.l.id,22+8*i)) o o' w w')
  (hr:Row w' o' (y.l.id,22+8*i) 118 2 v (x.A0.length+1) (qh x.A0++[I Z z.1,I Z z.2])) :
  Av (w'.setCell ⟨y.xb i,5,none⟩ v) o' y (S.tx i (x.BF z))/\Stp (ux y i) o o' w (w'.setCell ⟨y.xb i,5,none⟩ v):=by
 have ht:=h.Au i x hx;obtain⟨vr,vk,vh,vu,hlg⟩:=ht.log;obtain⟨vt,jx,_⟩:=ht.A3;have ob:=ht.ob;have ob7:o' (y.xb i)=(y.l.id,16+8*i):=(hs.tags _ jx.lt).trans ob;have k:Stp (fun t=>t=(y.l.id,16+8*i)) o' o' w' (w'.setCell ⟨y.xb i,5,none⟩ v):=(Stp.refl _ o' w').setCell (by show o' (y.xb i)=_;exact ob7) _
 have hT:Stp (ux y i) o o' w (w'.setCell ⟨y.xb i,5,none⟩ v):=
  (hs.mono (by rintro _ rfl;exact⟨rfl,by simp<;>omega,by simp<;>omega⟩)).trans (k.mono (by rintro _ rfl;exact⟨rfl,by simp,by simp⟩))
 refine⟨h.tx ⟨⟨v,(jx.Ar hs (by rw[ob];simp<;>omega)).set 5 v,?_⟩,⟨vr,vk,vh,vu,(hlg.Ar hs fun j hj=>by simp<;>omega).Ar k fun j hj=>by simp<;>omega⟩,ob7⟩ hT,hT⟩
 have e:=hr.Ar k (by simp<;>omega)
 have e1:(x.BF z).A0.length=x.A0.length+1:=by simp[Tx.BF]
 have e2:qh (x.BF z).A0=qh x.A0++[I Z z.1,I Z z.2]:=bf x.A0 z;rw[e1,e2];exact e
def qqt (h0:Av w o y S) (hk:S.ok) (hi:i<S.Au.length) (hn:S.Aw=-1\/S.Aw=(i:Int)) (hv:S.version<=(S.t i).start) {z:Nat×Nat} {l:List (Nat×Nat)} (hq:S.queue=z::l) (hz:z.2<(S.t i).seen)
  {b1:Nat} (j1:An w b1 #[ptr y.sb] 58) (t1:o b1=(y.l.id+1,0)) :
  Ab Tryz.prog 154 #[ptr (y.xb i),ptr b1] w fun e w'=>e=O (Ak #[z.1,()])/\BM y (({ S with Aw:=(i:Int),queue:=l }:Am).tx i ((S.t i).BF z)) o w w':=by
 obtain⟨o1,ho1,dN,hS0⟩:=PRe o w (y.l.id+1,0) (qi y);have h:=h0.retag dN;clear dN
 have u1:o1 b1=(y.l.id+1,0):=by rw[ho1,qk j1.lt];exact t1
 have hbx:∀ b,w.1.size<=b->o1 b=(y.l.id+1,0):=fun b hb=>by rw[ho1];exact qq hb
 clear ho1 h0 t1;have hx:=Am.AW hi;have hlq:l.length<=1099511627776:=by have h1:=hk.qu;have h2:=hk.Lh;rw[hq,Qv]at h1;omega
 have hlt:(S.t i).A0.length<=1099511627776:=by
  have h1:=hk.qu;have h2:=hk.Lh;have h3:=ug S.Au i { S.t i with A0:=[] } _ hx;simp only[List.length_nil]at h3;omega
 obtain⟨x,hxe⟩:=Ja0 (S.t i);rw[<-hxe]at hx hv hz hlt;have HX:=Qa hx;have HXE:=Qa hxe;have HS:=Qa hS0;have HB:=Qa hbx;have hold:=Qa (fun (W:Aa) (hb:Ae w w W)=>h.hold i hb)
 obtain⟨vt,jx,hrt⟩:=(h.Au i _ hx).A3;unfold zj at jx;have otx:=(h.Au i _ hx).ob;obtain⟨vq,vl,vm,jb,hrw⟩:=h.A3;have hrq:=hrw.q;have rl:=hrw.l;have rm:=hrw.m;rw[hq]at hrq;unfold qm at jb;have hos:=h.os;have n1:b1≠y.sb:=fun e=>by rw[e,hos]at u1;injection u1 with u1 _;omega
 have nx:y.xb i≠y.sb:=fun e=>by have h1:=otx;rw[e,hos]at h1;injection h1 with _ h1;omega
 have hvI:¬(x.start:Int)<(S.version:Int):=by omega
 have bZ:¬(x.seen:Int)<=(z.2:Int):=by omega
 have c1:=j1.cell;have cx:=jx.cell;rcases hrq.Dc with ⟨_,hh⟩|⟨g,cap,rfl,hcap⟩
 ·simp[qh]at hh
 have ng:g≠y.sb:=fun e=>by have:=hrq.EB;rw[e,hos]at this;injection this with _ this;omega
 obtain⟨r0,r1⟩:=hrq.at2 0 z rfl;have hlen:S.queue.length=l.length+1:=by rw[hq];rfl
 rw[Qv]at jb hrq;obtain⟨nl,hnl⟩:=Ja0 (l.length+1);have HNL:=Qa hnl;rw[<-hnl]at jb hrq;have hq0:((nl:Int)==0)=false:=by rw[Qh];omega
 have hqp:(0:Int)<(nl:Int):=by omega
 have AAx:0<nl:=by omega
 have AAy:¬(nl:Int)<=0:=by omega
 have AAz:nl≠0:=by omega
 clear hnl r0 r1;obtain⟨hd,hhd⟩:=Ja0 S.Aw;rw[<-hhd]at hn jb;have HK:=Qa hk;have HQ:=Qa hq;have HI:=Qa hi;have HLQ:=Qa hlq;have HLT:=Qa hlt;clear h hk hi hx hxe hS0 hbx hv hz hq hlq hlt hhd hcap hrw hlen;have c:=jb.cell;have zb:=jb.free;have sb:=jb.lt
 have hcase:(hd != -1)=false\/(hd != -1)=true/\(hd != (i:Int))=false:=by
  rcases hn with e|e
  ·exact .inl (by rw[e];rfl)
  ·by_cases e1:hd=-1
   ·exact .inl (by rw[e1];rfl)
   ·exact .inr ⟨by rw[bne_iff_ne];exact e1,by rw[e];simp⟩
 clear hn;rcases hcase with hc1|⟨hc1,hc2⟩
 all_goals
  go_enter Tryz.func154,Tryz.ntmps154;go_upto_region 1 with fail;go_quiet (fail);obtain⟨W1,hW1⟩:=Ja0 (w.drewN nq);have hb1:Ae w w W1:=by rw[hW1];exact zo (qd w) _
  rw[<-hW1];clear hW1;obtain⟨hS2,hs2⟩:=hold.o W1 hb1;have k1:=j1.below hb1 j1.lt;have kx:=jx.below hb1 jx.lt;have kb:=jb.below hb1 jb.lt;have hr1:=hrq.below hb1;clear c1 cx c zb sb;have c1:=k1.cell;have cx:=kx.cell;have c:=kb.cell;have zb:=kb.free;have sb:=kb.lt;go_upto_region 3 with fail;go_region_with (fail)
  all_goals
   obtain⟨W2,hW2⟩:=Ja0 ((W1.setCell ⟨y.sb,6,none⟩ i).drew);have iJ:Stp (kh y) o1 o1 w W2:=by rw[hW2];exact hs2.drew
   have iy:=hS2.below (qf (qd (W1.setCell ⟨y.sb,6,none⟩ i)));rw[<-hW2]at iy;have Alc:W1.1.size<=W2.1.size:=by rw[hW2];simp
   have xY:Stp (fun t=>t=(y.l.id,11)) o1 o1 W1 W2:=by rw[hW2];exact ((Stp.refl _ o1 W1).setCell (by show o1 y.sb=_;exact hos) _).drew
   have mb:An W2 y.sb #[ptr y.l.h,ptr y.cy,ptr y.ck,y.FE,Ai (some ⟨g,0,none⟩) nl cap,S.next,i,S.version,vl,vm] 100:=by rw[hW2];exact qj (kb.set 6 _)
   rw[<-hW2];clear hW2;have m1:=k1.Ar xY (by rw[u1];simp)
   have mx:=kx.Ar xY (by rw[otx];simp<;>omega)
   have mq:=hr1.Ar xY (by simp)
   have mt:=(hrt.below hb1).Ar xY (by simp<;>omega)
   have rl2:=(rl.below hb1).Ar xY (by simp)
   have rm2:=(rm.below hb1).Ar xY (by simp)
   clear c1 cx c zb sb k1 kx kb hr1 hs2 hS2 xY;have c1:=m1.cell;have cx:=mx.cell;have c:=mb.cell;have q0:W2.cell? ⟨g,0,none⟩=some (I Z z.1):=(mq.at2 0 z rfl).1;have q1:W2.cell? ⟨g,1,none⟩=some (I Z z.2):=(mq.at2 0 z rfl).2;go_upto_region 4 with fail;go_quiet (fail);obtain⟨W3,hW3⟩:=Ja0 (W2.drewN nq);have hb3:Ae W2 W2 W3:=by rw[hW3];exact zo (qd W2) _
   rw[<-hW3];clear hW3 c1 cx c q0 q1;have cZ:=iy.below hb3;have n1':=m1.below hb3 m1.lt;have nx':=mx.below hb3 mx.lt;have nb':=mb.below hb3 mb.lt;have nq':=mq.below hb3;have nt':=mt.below hb3;have rl3:=rl2.below hb3;have rm3:=rm2.below hb3;have Aeb:=iJ.trans (Stp.of_below (T:=kh y) (o:=o1) hb3);clear iy m1 mx mb mq mt iJ;have c1:=n1'.cell;have cx:=nx'.cell;have c:=nb'.cell;have q0:W3.cell? ⟨g,0,none⟩=some (I Z z.1):=(nq'.at2 0 z rfl).1;have q1:W3.cell? ⟨g,1,none⟩=some (I Z z.2):=(nq'.at2 0 z rfl).2;go_upto_region 7 with fail;obtain⟨W4,dX⟩:=Ja0 (W3.alloc (.cells #[z.1,z.2] 118));have hb4:Ae W3 W3 W4:=by rw[dX];exact qc (qd W3) _
   have jI:An W4 W3 #[z.1,z.2] 118:=by rw[dX];exact An.new W3 _ _
   rw[<-dX];clear dX c1 cx c q0 q1;have uI:o1 W3=(y.l.id+1,0):=HB.o _ (Qo hb1.size (Qo Alc hb3.size));obtain⟨bI,uO⟩:=Ja0 W3.1.size;rw[<-uO]at jI uI ⊢;clear uO;have dQ:=cZ.below hb4;have m1:=n1'.below hb4 n1'.lt;have mx:=nx'.below hb4 nx'.lt;have mb:=nb'.below hb4 nb'.lt;have mq:=nq'.below hb4;have mt:=nt'.below hb4;have rl4:=rl3.below hb4;have rm4:=rm3.below hb4;have gL:=Aeb.trans (Stp.of_below (T:=kh y) (o:=o1) hb4);clear n1' nx' nb' nq' nt' cZ Aeb;have c1:=m1.cell;have cb:=mb.cell;have mq2:Row W4.drew o1 (y.l.id,13) 118 2 (Ai (some ⟨g,0,none⟩) nl cap) (l.length+1) (qh (z::l)):=by have:=mq.below (qf (qd W4));rw[HNL.o]at this ⊢;exact this
   have HD:=Qa (MJ mq2 HLQ.o);have HB1:=Qa (fun (w5:Aa) (hs:Stp (fun u=>u=(y.l.id,13)) o1 o1 W4.drew w5)=>(qj m1).Ar hs (by rw[u1];simp))
   have HBx:=Qa (fun (w5:Aa) (hs:Stp (fun u=>u=(y.l.id,13)) o1 o1 W4.drew w5)=>(qj mx).Ar hs (by rw[otx];simp<;>omega))
   have HBI:=Qa (fun (w5:Aa) (hs:Stp (fun u=>u=(y.l.id,13)) o1 o1 W4.drew w5)=>(qj jI).Ar hs (by rw[uI];simp))
   have yF:=Qa (fun (w5:Aa) (hs:Stp (fun u=>u=(y.l.id,13)) o1 o1 W4.drew w5)=>(qj mb).Ar hs (by rw[hos];simp))
   have vI:=Qa (fun (w5:Aa) (hs:Stp (fun u=>u=(y.l.id,13)) o1 o1 W4.drew w5)=>(mt.below (qf (qd W4))).Ar hs (by simp<;>omega))
   have HS6:=Qa (fun (w5:Aa) (p5:Option Addr) (qE:Nat) (dZ:Row w5 o1 (y.l.id,13) 118 2 (.slice p5 l.length qE) l.length (qh l)) (hs:Stp (fun u=>u=(y.l.id,13)) o1 o1 W4.drew w5) =>
    show Av (w5.setCell ⟨y.sb,4,none⟩ (.slice p5 l.length qE)) o1 y { S with Aw:=(i:Int),queue:=l }/\Stp (kh y) o1 o1 w (w5.setCell ⟨y.sb,4,none⟩ (.slice p5 l.length qE))/\Stp (fun t=>t=(y.l.id,11)) o1 o1 w5 (w5.setCell ⟨y.sb,4,none⟩ (.slice p5 l.length qE)) from by
     have k:Stp (fun t=>t=(y.l.id,11)) o1 o1 w5 (w5.setCell ⟨y.sb,4,none⟩ (.slice p5 l.length qE)):=(Stp.refl _ o1 w5).setCell (by show o1 y.sb=_;exact hos) _
     have hT:Stp (kh y) o1 o1 W4 (w5.setCell ⟨y.sb,4,none⟩ (.slice p5 l.length qE)):=((Stp.of_below (qf (qd W4))).trans (hs.mono (by rintro _ rfl;exact⟨rfl,.inr (.inl rfl)⟩))).trans (k.mono (by rintro _ rfl;exact⟨rfl,.inl rfl⟩))
     refine⟨dQ.own (S':={ S with Aw:=(i:Int),queue:=l }) rfl rfl rfl rfl rfl ((yF.o _ hs).set 4 _) ⟨dZ.Ar k (by simp),((rl4.below (qf (qd W4))).Ar hs (by simp)).Ar k (by simp),((rm4.below (qf (qd W4))).Ar hs (by simp)).Ar k (by simp)⟩ hT,gL.trans hT,k⟩)
   clear mq mq2 rl4 rm4 rl3 rm3 rl2 rm2;go_region_with (first
    | (go_at_call 155;refine HD.o.mono ?_;rintro e w5 ⟨v5,rfl,dZ,hs5⟩;obtain⟨p5,qE,rfl⟩:=dZ.A6;have d1:=(HB1.o _ hs5).cell;have db:=(yF.o _ hs5).cell;have zb:=(yF.o _ hs5).free;have sb:=(yF.o _ hs5).lt)
    | fail)
   all_goals
    obtain⟨eT,xO,k6⟩:=HS6.o _ _ _ dZ hs5;have j1':=(HB1.o _ hs5).Ar k6 (by rw[u1];simp)
    have jx':=(HBx.o _ hs5).Ar k6 (by rw[otx];simp<;>omega)
    have jI':=(HBI.o _ hs5).Ar k6 (by rw[uI];simp)
    have jt':=(vI.o _ hs5).Ar k6 (by simp<;>omega)
    obtain⟨W6,fK⟩:=Ja0 (w5.setCell ⟨y.sb,4,none⟩ (.slice p5 l.length qE));rw[<-fK]at eT xO j1' jx' jI' jt' ⊢;clear fK k6 dZ hs5 d1 db zb sb c1 cb;have cx:=jx'.cell;have cI:=jI'.cell;have zx:=jx'.free;have sx:=jx'.lt;go_upto_region 8 with fail;obtain⟨iU,hiU,hsI,cK,bZ⟩:=gi;have hu64:=Tryz.underlying98;have hlt:=HLT.o;have dE:x.A0.length+1<=maxLen:=by simp only[maxLen];omega
    have hmb:(x.A0.length+1)*16<=140737488355328:=by omega
    have hbN:Ae W6 W6 (W6.drew.alloc (.cells #[z.1,z.2] 118)):=qc (qf (qd W6)) _;have jn:=An.new W6.drew #[z.1,z.2] 118;have rn:Row (W6.drew.alloc (.cells #[z.1,z.2] 118)) o1 (y.l.id,22+8*i) 118 2 vt x.A0.length (qh x.A0):=jt'.below hbN;have hnews:∀ (j:Nat) (u:Ac),([I Z z.1,I Z z.2]:List Ac)[j]?=some u->(W6.drew.alloc (.cells #[z.1,z.2] 118)).cell? ((⟨W6,0,none⟩:Addr).add j)=some u:=fun j u hu=>by
     have:=jn.cell j;rw[Addr.add_lit,Nat.zero_add];show World.cell? _ ⟨W6.drew.1.size,j,none⟩=_;rw[this];simpa using hu
    have hone:∀ u ∈ ([I Z z.1,I Z z.2]:List Ac),u.oneCell'=true:=by simp[Value.oneCell']
    have HK7:=Qa (fun (w7:Aa) (o7:Own) (hs:Stp (fun u=>u=(y.l.id,22+8*i)) o1 o7 (W6.drew.alloc (.cells #[z.1,z.2] 118)) w7) =>
     show An w7 (y.xb i) _ _/\An w7 bI _ _ from ⟨(jx'.below hbN jx'.lt).Ar hs (by rw[otx];simp<;>omega),(jI'.below hbN jI'.lt).Ar hs (by rw[uI];simp<;>omega)⟩)
    have HF7:=Qa (fun (w7:Aa) (o7:Own) (v7:Ac) (hr:Row w7 o7 (y.l.id,22+8*i) 118 2 v7 (x.A0.length+1) (qh x.A0++[I Z z.1,I Z z.2])) (hs:Stp (fun u=>u=(y.l.id,22+8*i)) o1 o7 (W6.drew.alloc (.cells #[z.1,z.2] 118)) w7) =>
     show BM y (({ S with Aw:=(i:Int),queue:=l }:Am).tx i (x.BF z)) o w (w7.setCell ⟨y.xb i,5,none⟩ v7) from by
      obtain⟨a,b⟩:=(eT.below hbN).A0 (i:=i) (x:=x) (z:=z) HX.o hs hr;exact⟨o7,a,(HS.o.trans (xO.mono fun _=>mh)).trans ((Stp.of_below hbN).trans (b.mono fun _=>Sz))⟩)
    clear eT xO jt' j1';go_region_law ((refine zt _ (by rfl) _ _ _ (by rfl) 118 iU _ 2 16 hu64 hiU bZ hsI cK (by rfl) (by decide) o1 (y.l.id,22+8*i) vt x.A0.length (qh x.A0) (by rfl) rn ⟨W6,0,none⟩ 1 1 [I Z z.1,I Z z.2] (by rfl) (by rfl) hnews hone dE hmb ?_;intro v' w7 hown mX;obtain⟨pa,cp,rfl⟩:=hown.A6;obtain⟨jX7,jI7⟩:=HK7.o _ _ mX;have cX:=jX7.cell;have zX:=jX7.free;have sX:=jX7.lt;have cI7:=jI7.cell))
    all_goals
     go_wp2_with fail;go_ret2;rw[<-HXE.o];exact⟨rfl,HF7.o _ _ _ hown mX⟩
